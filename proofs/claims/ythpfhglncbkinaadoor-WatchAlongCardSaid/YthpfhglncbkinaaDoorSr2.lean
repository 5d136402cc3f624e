/- Walks (no statement stands here). -/
import Derived.Test.YthpfhglncbkinaaDoorSr1
import Derived.Test.YthpfhglncbkinaaDoorPAllx0
import Derived.Test.YthpfhglncbkinaaDoorSz
import Derived.Test.YthpfhglncbkinaaDoorSv
import Derived.Test.YthpfhglncbkinaaDoorWMore
import Derived.Test.YthpfhglncbkinaaDoorWLast
namespace Go.Proofs.YthpfhglncbkinaaDoor.SF
open Go.RowKit Go.Sx Go.Proofs.YthpfhglncbkinaaDoorW.PrintWords Go.Proofs.YthpfhglncbkinaaDoorW.PrintLast Go.Proofs.YthpfhglncbkinaaDoorW.PrintMore
set_option linter.unusedVariables false
set_option linter.unusedSimpArgs false
set_option maxRecDepth 100000
def cells44 (x : PAll.S44) (A : Option Addr) (c : Nat) : List Value := [.int .i64 x.f0, .int .i64 x.f1, .int .i64 x.f2, .slice A x.f3.length c, .int .u64 x.f4]
/-- What is read of a row of facts. -/
structure Facts44 (w : World) (A : Option Addr) (l : List PAll.S44) (ad : Addr) (PA : Nat → Option Addr) (PC : Nat → Nat) : Prop where
  hA : 0 < l.length → A = some ad
  hn : l.length ≤ 9223372036854775807
  le : ∀ j, (l.getD j PAll.z44).f3.length ≤ PC j
  row : ∀ j, j < l.length → Kd.C (Kd.int .i64) w (PA j) (l.getD j PAll.z44).f3.length (l.getD j PAll.z44).f3
  cell : ∀ j, j < l.length → ∀ i u, (cells44 (l.getD j PAll.z44) (PA j) (PC j))[i]? = some u → w.cell? ((ad.add (j * 5)).add i) = some u
theorem facts44_of {w : World} {A : Option Addr} {l : List PAll.S44} (h : Kd.C PAll.k44 w A l.length l) : ∃ ad PA PC, Facts44 w A l ad PA PC := by
  obtain ⟨_, hn, hr⟩ := h
  have key : ∃ (PA : Nat → Option Addr) (PC : Nat → Nat) (ad : Addr), (0 < l.length → A = some ad) ∧ (∀ j, (l.getD j PAll.z44).f3.length ≤ PC j) ∧ ∀ j, j < l.length → Kd.C (Kd.int .i64) w (PA j) (l.getD j PAll.z44).f3.length (l.getD j PAll.z44).f3 ∧ ∀ i u, (cells44 (l.getD j PAll.z44) (PA j) (PC j))[i]? = some u → w.cell? ((ad.add (j * 5)).add i) = some u := by
    rcases Nat.eq_zero_or_pos l.length with h0 | h0
    · refine ⟨fun _ => none, fun j => (l.getD j PAll.z44).f3.length, ⟨0, 0, none⟩, fun h => by omega, fun j => Nat.le_refl _, fun j hj => by omega⟩
    · obtain ⟨ad, rfl, hc⟩ := hr h0
      have h1 : ∀ j, ∃ pa pc, (l.getD j PAll.z44).f3.length ≤ pc ∧ (j < l.length → Kd.C (Kd.int .i64) w pa (l.getD j PAll.z44).f3.length (l.getD j PAll.z44).f3 ∧ ∀ i u, (cells44 (l.getD j PAll.z44) pa pc)[i]? = some u → w.cell? ((ad.add (j * 5)).add i) = some u) := by
        intro j
        by_cases hj : j < l.length
        · obtain ⟨c, hs, hK, hcell⟩ := hc j (l.getD j PAll.z44) (by rw [List.getD_eq_getElem?_getD, List.getElem?_eq_getElem hj]; rfl)
          obtain ⟨A3, c3, rfl, l3, g3⟩ := PAll.k44_open hK
          exact ⟨A3, c3, l3, fun _ => ⟨g3, fun i u hu => by rw [Sx.add_add]; exact hcell i u hu⟩⟩
        · exact ⟨none, _, Nat.le_refl _, fun h => absurd h hj⟩
      refine ⟨fun j => (h1 j).choose, fun j => (h1 j).choose_spec.choose, ad, fun _ => rfl, fun j => (h1 j).choose_spec.choose_spec.1, fun j hj => (h1 j).choose_spec.choose_spec.2 hj⟩
  obtain ⟨PA, PC, ad, h1, h2, h3⟩ := key
  exact ⟨ad, PA, PC, h1, hn, h2, fun j hj => (h3 j hj).1, fun j hj => (h3 j hj).2⟩
theorem Facts44.below {w w1 : World} {A : Option Addr} {l : List PAll.S44} {ad : Addr} {PA : Nat → Option Addr} {PC : Nat → Nat} (h : Facts44 w A l ad PA PC) (hb : Below w.heap.size w w1) : Facts44 w1 A l ad PA PC :=
  ⟨h.hA, h.hn, h.le, fun j hj => Kd.C_below (h.row j hj) hb, fun j hj i u hu => pw_cell_below hb (h.cell j hj i u hu)⟩
def capL (F : Nat → PAll.S44) : Nat → List Int
  | 0 => []
  | k + 1 => capL F k ++ [(F k).f2]
def capC (F : Nat → PAll.S44) : Nat → List Value
  | 0 => []
  | k + 1 => capC F k ++ [.int .i64 (F k).f2]
theorem capL_len (F : Nat → PAll.S44) : ∀ k, (capL F k).length = k
  | 0 => rfl
  | k + 1 => by rw [capL, List.length_append, capL_len F k]; rfl
theorem capC_nums (F : Nat → PAll.S44) : ∀ k, capC F k = nums .i64 (capL F k)
  | 0 => rfl
  | k + 1 => by rw [capC, capL, capC_nums F k]; unfold nums; rw [List.map_append]; rfl
theorem capL_get (F : Nat → PAll.S44) : ∀ k j, j < k → (capL F k).getD j 0 = (F j).f2
  | 0, j, h => by omega
  | k + 1, j, h => by
    rw [capL, List.getD_eq_getElem?_getD]
    by_cases hj : j < k
    · rw [List.getElem?_append_left (by rw [capL_len]; exact hj), ← List.getD_eq_getElem?_getD]
      exact capL_get F k j hj
    · obtain rfl : j = k := by omega
      rw [List.getElem?_append_right (by rw [capL_len]; exact Nat.le_refl _), capL_len, Nat.sub_self]
      rfl
def over44 (lag : Int) (F : Nat → PAll.S44) (at_ : Nat) : Bool := ((F at_).f0 == 2) && decide (refK lag (capL F (at_ + 1)) < (F at_).f1)
theorem knownOf {w0 w : World} {hp : List Sx.Item} {lag : Int} {A : Option Addr} {c m : Nat} {F : Nat → PAll.S44} (hw : HeapOK w0 hp w) (ho : w.ownsRow 0 3 1 (.slice A m c) m (capC F m)) (hm : m ≤ 9223372036854775807) : Calls Tryd.prog 18 #[.int .i64 lag, .slice A m c] w fun e w' => e = .returned (.int .i64 (refK lag (capL F m))) ∧ Below w.heap.size w w' := by
  have hl := capL_len F m
  rw [capC_nums] at ho
  have h := known_calls lag A c (capL F m) w (C_of_own (e := 3) (base := 0) (c := c) (by rw [hl]; exact ho) (by rw [hl]; exact hm))
  rwa [hl] at h

theorem over2_calls (lag : Int) (at_ : Nat) (A : Option Addr) (c : Nat) (l : List PAll.S44) (w : World) (ad : Addr) (PA : Nat → Option Addr) (PC : Nat → Nat) (F : Facts44 w A l ad PA PC) (hat : at_ < l.length) (hsz : l.length ≤ 1000000) : Calls Tryd.prog 9 #[.int .i64 lag, .slice A l.length c, .int .i64 at_] w fun e w' => e = .returned (.bool (over44 lag (fun j => l.getD j PAll.z44) at_)) ∧ Below w.heap.size w w' := by
  refine enter (w0 := w) (hp := [old w]) (env := [(0, .int .i64 lag), (1, .slice A l.length c), (2, .int .i64 at_)]) Tryd.func9 rfl 39 rfl (by simp) rfl (HeapOK.start _) ?_
  refine wc_seq ?_
  refine wc_region ?_
  refine wl_q (q_assign rfl rfl) rfl rfl (by decide) ?_
  refine wl_nil ?_
  refine fq_then ?_
  refine wc_seq ?_
  refine wc_region ?_
  refine wl_q (q_assign rfl rfl) rfl rfl (by decide) ?_
  refine wl_nil ?_
  refine fq_then ?_
  refine wc_seq ?_
  refine wc_seq ?_
  refine wc_region ?_
  refine wl_q (q_assign rfl rfl) rfl rfl (by decide) ?_
  refine wl_nil ?_
  refine fq_then ?_
  refine wc_block ?_
  refine wc_own (E := 3) (sz := 1) ?_
  refine wc_loop (ι := (Nat × Value)) (fun i => [(0, .int .i64 lag), (1, .slice A l.length c), (2, .int .i64 at_), (7, i.2), (8, .int .i64 i.1)]) (fun i => [.own 0 3 1 i.2 i.1 (capC (fun j => l.getD j PAll.z44) i.1), old w]) (fun i => i.1 ≤ at_ + 1) (fun i => at_ + 1 - i.1) (0, .slice none 0 0) (Nat.zero_le _) ⟨List.forall_mem_cons.2 ⟨rfl, List.forall_mem_cons.2 ⟨rfl, List.forall_mem_cons.2 ⟨rfl, List.forall_mem_cons.2 ⟨rfl, List.forall_mem_cons.2 ⟨rfl, fun _ h => (by cases h)⟩⟩⟩⟩⟩, List.Sublist.refl _⟩ ?_
  rintro ⟨k, v⟩ hkn
  simp only at hkn
  refine wc_seq ?_
  refine wc_seq ?_
  refine wc_region ?_
  refine wl_q (q_move rfl rfl) rfl rfl (by decide) ?_
  refine wl_q (q_move rfl rfl) rfl rfl (by decide) ?_
  refine wl_q (q_bin rfl rfl rfl rfl) rfl rfl (by decide) ?_
  refine wl_nil ?_
  refine fq_then ?_
  refine wc_cond rfl (fun h11 => ?_) (fun h11 => ?_)
  · skip
    have q11 := h11
    try simp only [decide_eq_true_eq, decide_eq_false_iff_not, beq_iff_eq, beq_eq_false_iff_ne, bne_iff_ne, ne_eq, bne_eq_false_iff_eq, Int.not_lt, Int.not_le] at q11
    have hlt : k ≤ at_ := (by (try simp only at q11); omega)
    refine wc_skip ?_
    refine fq_then ?_
    refine wc_seq ?_
    refine wc_block ?_
    refine wc_region ?_
    refine wl_q (q_move rfl rfl) rfl rfl (by decide) ?_
    refine wl_q (q_move rfl rfl) rfl rfl (by decide) ?_
    refine wl_q (q_move rfl rfl) rfl rfl (by decide) ?_
    refine wl_q (q_indexO rfl rfl (F.hA (by omega)) rfl Tryd.underlying25 Sz44 (by omega) (by omega)) rfl rfl (by decide) ?_
    refine wl_q (q_fieldAddr rfl rfl Fo44_2) rfl rfl (by decide) ?_
    refine wl_q (q_load (v := .int .i64 (l.getD k PAll.z44).f2) rfl rfl Mn3 (reads_old (by simp) (fun j u hu => by cases j with | zero => (cases hu; exact F.cell k (by omega) 2 _ rfl) | succ j => simp at hu))) rfl rfl (by decide) ?_
    refine wl_buildSlice rfl rfl rfl (by decide) rfl Tryd.underlying37 (built_one Sz3 (by decide) Zs3 (by decide) rfl rfl) (fun b1 => ?_)
    refine wl_append (i := 1) (m := 1) (news := [.int .i64 (l.getD k PAll.z44).f2]) rfl rfl rfl (by decide) Tryd.underlying37 Ap3 (by decide) rfl rfl rfl (readsAll (i := 0) rfl) rfl (by simp [Value.oneCell']) (by unfold maxLen; omega) (by omega) (fun v21 _ => ?_)
    refine wl_q (q_assign rfl rfl) rfl rfl (by decide) ?_
    refine wl_nil ?_
    refine fq_block ?_
    refine fq_then ?_
    refine wc_region ?_
    refine wl_q (q_move rfl rfl) rfl rfl (by decide) ?_
    refine wl_q (q_bin rfl rfl rfl rfl) rfl rfl (by decide) ?_
    refine wl_q (q_assign rfl rfl) rfl rfl (by decide) ?_
    refine wl_nil ?_
    refine fq_next (k + 1, v21) (show k + 1 ≤ at_ + 1 by omega) (by simp only; omega) ⟨List.forall_mem_cons.2 ⟨rfl, List.forall_mem_cons.2 ⟨rfl, List.forall_mem_cons.2 ⟨rfl, List.forall_mem_cons.2 ⟨rfl, List.forall_mem_cons.2 ⟨(congrArg (fun z => some (Value.int .i64 z)) (wk1 (n := l.length) (by omega) (by omega))), fun _ h => (by cases h)⟩⟩⟩⟩⟩, List.Sublist.cons _ (List.Sublist.cons_cons _ (List.Sublist.cons_cons _ (List.Sublist.refl [])))⟩
  · skip
    have q11 := h11
    try simp only [decide_eq_true_eq, decide_eq_false_iff_not, beq_iff_eq, beq_eq_false_iff_ne, bne_iff_ne, ne_eq, bne_eq_false_iff_eq, Int.not_lt, Int.not_le] at q11
    obtain rfl : k = at_ + 1 := (by (try simp only at q11); omega)
    refine wc_ownForm (i := 0) rfl (fun A3 c3 e3 hc3 => ?_)
    simp only at e3 hc3
    subst e3
    refine wc_exit ?_
    refine fq_then_exit ?_
    refine fq_then_exit ?_
    refine fq_block_hit ?_
    refine fq_then ?_
    refine wc_seq ?_
    cases hd28 : (((l.getD at_ PAll.z44).f0 == 2))
    · skip
      refine wc_draw 18 Fol (by kernel_rfl) (Chain.yield (q_move rfl rfl) rfl rfl (Chain.yield (q_move rfl rfl) rfl rfl (Chain.yield (q_indexO rfl rfl (F.hA (by omega)) rfl Tryd.underlying25 Sz44 (by omega) (by omega)) rfl rfl (Chain.yield (q_fieldAddr rfl rfl Fo44_0) rfl rfl (Chain.yield (q_load (v := .int .i64 (l.getD at_ PAll.z44).f0) rfl rfl Mn3 (reads_old (by simp) (fun j u hu => by cases j with | zero => (cases hu; exact F.cell at_ (by omega) 0 _ rfl) | succ j => simp at hu))) rfl rfl (Chain.yield (q_bin rfl rfl rfl rfl) rfl rfl (Chain.yield ((OpQ.to (q_move rfl rfl) (congrArg Value.bool hd28))) rfl rfl (Chain.skip (b := false) rfl rfl rfl rfl (Chain.skip (b := false) rfl rfl rfl rfl (Chain.skip (b := false) rfl rfl rfl rfl (Chain.skip (b := false) rfl rfl rfl rfl (Chain.skip (b := false) rfl rfl rfl rfl (Chain.skip (b := false) rfl rfl rfl rfl (Chain.skip (b := false) rfl rfl rfl rfl (Chain.skip (b := false) rfl rfl rfl rfl (Chain.skip (b := false) rfl rfl rfl rfl (Chain.yield (q_pick rfl rfl rfl) rfl rfl (Chain.yield (q_assign rfl rfl) rfl rfl (Chain.nil _))))))))))))))))))) ?_
      refine wl_nil ?_
      refine fq_then ?_
      refine wc_ret ?_
      refine fq_ret1 rfl rfl (fun w1 H => ?_)
      refine ⟨congrArg (fun z => Ending.returned (Value.bool z)) ?_, H.toBelow (by simp)⟩
      unfold over44
      rw [hd28]
      rfl
    · skip
      refine wc_draw 18 Fol (by kernel_rfl) (Chain.yield (q_move rfl rfl) rfl rfl (Chain.yield (q_move rfl rfl) rfl rfl (Chain.yield (q_indexO rfl rfl (F.hA (by omega)) rfl Tryd.underlying25 Sz44 (by omega) (by omega)) rfl rfl (Chain.yield (q_fieldAddr rfl rfl Fo44_0) rfl rfl (Chain.yield (q_load (v := .int .i64 (l.getD at_ PAll.z44).f0) rfl rfl Mn3 (reads_old (by simp) (fun j u hu => by cases j with | zero => (cases hu; exact F.cell at_ (by omega) 0 _ rfl) | succ j => simp at hu))) rfl rfl (Chain.yield (q_bin rfl rfl rfl rfl) rfl rfl (Chain.yield ((OpQ.to (q_move rfl rfl) (congrArg Value.bool hd28))) rfl rfl (Chain.want (q_move rfl rfl) rfl rfl rfl rfl (Chain.want (q_move rfl rfl) rfl rfl rfl rfl (Chain.want (q_indexO rfl rfl (F.hA (by omega)) rfl Tryd.underlying25 Sz44 (by omega) (by omega)) rfl rfl rfl rfl (Chain.want (q_fieldAddr rfl rfl Fo44_1) rfl rfl rfl rfl (Chain.want (q_load (v := .int .i64 (l.getD at_ PAll.z44).f1) rfl rfl Mn3 (reads_old (by simp) (fun j u hu => by cases j with | zero => (cases hu; exact F.cell at_ (by omega) 1 _ rfl) | succ j => simp at hu))) rfl rfl rfl rfl (Chain.want (q_move rfl rfl) rfl rfl rfl rfl (Chain.want (q_move rfl rfl) rfl rfl rfl rfl (Chain.want (q_call rfl En18 rfl (fun w1 hw1 => knownOf (m := at_ + 1) (F := (fun j => l.getD j PAll.z44)) hw1 (hw1.get (i := 0) rfl) (by omega))) rfl rfl rfl rfl (Chain.want (q_bin rfl rfl rfl rfl) rfl rfl rfl rfl (Chain.yield (q_pick rfl rfl rfl) rfl rfl (Chain.yield (q_assign rfl rfl) rfl rfl (Chain.nil _))))))))))))))))))) ?_
      refine wl_nil ?_
      refine fq_then ?_
      refine wc_ret ?_
      refine fq_ret1 rfl rfl (fun w1 H => ?_)
      refine ⟨congrArg (fun z => Ending.returned (Value.bool z)) ?_, H.toBelow (by simp)⟩
      unfold over44
      rw [hd28]
      rfl

theorem breaks2_calls (at_ : Nat) (A : Option Addr) (c : Nat) (l : List PAll.S44) (w : World) (ad : Addr) (PA : Nat → Option Addr) (PC : Nat → Nat) (F : Facts44 w A l ad PA PC) (hat : at_ < l.length) (hsz : l.length ≤ 1000000) : Calls Tryd.prog 10 #[.slice A l.length c, .int .i64 at_] w fun e w' => e = .returned (.bool (badAt (fun j => (l.getD j PAll.z44).f3) at_)) ∧ Below w.heap.size w w' := by
  refine enter (w0 := w) (hp := [old w]) (env := [(0, .slice A l.length c), (1, .int .i64 at_)]) Tryd.func10 rfl 28 rfl (by simp) rfl (HeapOK.start _) ?_
  refine wc_seq ?_
  refine wc_region ?_
  refine wl_q (q_assign rfl rfl) rfl rfl (by decide) ?_
  refine wl_nil ?_
  refine fq_then ?_
  refine wc_seq ?_
  refine wc_region ?_
  refine wl_q (q_move rfl rfl) rfl rfl (by decide) ?_
  refine wl_q (q_move rfl rfl) rfl rfl (by decide) ?_
  refine wl_q (q_indexO rfl rfl (F.hA (by omega)) rfl Tryd.underlying25 Sz44 (by omega) (by omega)) rfl rfl (by decide) ?_
  refine wl_q (q_fieldAddr rfl rfl Fo44_3) rfl rfl (by decide) ?_
  refine wl_q (q_load (v := .slice (PA (at_)) (l.getD (at_) PAll.z44).f3.length (PC (at_))) rfl rfl Mn37 (reads_old (by simp) (fun j u hu => by cases j with | zero => (cases hu; exact F.cell (at_) (by omega) 3 _ rfl) | succ j => simp at hu))) rfl rfl (by decide) ?_
  refine wl_q (q_call rfl En19 rfl (fun w1 hw1 => fits2_calls _ _ _ w1 (Kd.C_below (F.row at_ hat) (hw1.toBelow (by simp))))) rfl rfl (by decide) ?_
  refine wl_q (q_assign rfl rfl) rfl rfl (by decide) ?_
  refine wl_nil ?_
  refine fq_then ?_
  refine wc_seq ?_
  refine wc_seq ?_
  refine wc_region ?_
  refine wl_q (q_move rfl rfl) rfl rfl (by decide) ?_
  refine wl_q (q_bin rfl rfl rfl rfl) rfl rfl (by decide) ?_
  refine wl_nil ?_
  refine fq_then ?_
  refine wc_cond rfl (fun h13 => ?_) (fun h13 => ?_)
  · skip
    have q13 := h13
    try simp only [decide_eq_true_eq, decide_eq_false_iff_not, beq_iff_eq, beq_eq_false_iff_ne, bne_iff_ne, ne_eq, bne_eq_false_iff_eq, Int.not_lt, Int.not_le] at q13
    refine wc_draw 13 Fol (by kernel_rfl) (Chain.yield (q_move rfl rfl) rfl rfl (Chain.yield (q_move rfl rfl) rfl rfl (Chain.yield (OpQ.to (q_bin rfl rfl rfl rfl) (congrArg (Value.int .i64) (wk0 h13 (by omega)))) rfl rfl (Chain.yield (q_indexO rfl rfl (F.hA (by omega)) rfl Tryd.underlying25 Sz44 (by omega) (by omega)) rfl rfl (Chain.yield (q_fieldAddr rfl rfl Fo44_3) rfl rfl (Chain.yield (q_load (v := .slice (PA (at_ - 1)) (l.getD (at_ - 1) PAll.z44).f3.length (PC (at_ - 1))) rfl rfl Mn37 (reads_old (by simp) (fun j u hu => by cases j with | zero => (cases hu; exact F.cell (at_ - 1) (by omega) 3 _ rfl) | succ j => simp at hu))) rfl rfl (Chain.yield (q_move rfl rfl) rfl rfl (Chain.yield (q_move rfl rfl) rfl rfl (Chain.yield (q_indexO rfl rfl (F.hA (by omega)) rfl Tryd.underlying25 Sz44 (by omega) (by omega)) rfl rfl (Chain.yield (q_fieldAddr rfl rfl Fo44_3) rfl rfl (Chain.yield (q_load (v := .slice (PA (at_)) (l.getD (at_) PAll.z44).f3.length (PC (at_))) rfl rfl Mn37 (reads_old (by simp) (fun j u hu => by cases j with | zero => (cases hu; exact F.cell (at_) (by omega) 3 _ rfl) | succ j => simp at hu))) rfl rfl (Chain.yield (q_call rfl En20 rfl (fun w1 hw1 => follows2_calls _ _ _ _ _ _ w1 (Kd.C_below (F.row (at_ - 1) (by omega)) (hw1.toBelow (by simp))) (Kd.C_below (F.row at_ hat) (hw1.toBelow (by simp))))) rfl rfl (Chain.yield (q_assign rfl rfl) rfl rfl (Chain.nil _)))))))))))))) ?_
    refine wl_nil ?_
    refine fq_then ?_
    refine wc_seq ?_
    refine wc_region ?_
    refine wl_q (q_move rfl rfl) rfl rfl (by decide) ?_
    refine wl_q (q_not rfl rfl) rfl rfl (by decide) ?_
    refine wl_q (q_assign rfl rfl) rfl rfl (by decide) ?_
    refine wl_nil ?_
    refine fq_then ?_
    refine wc_ret ?_
    refine fq_ret1 rfl rfl (fun w1 H => ?_)
    refine ⟨congrArg (fun z => Ending.returned (Value.bool z)) ?_, H.toBelow (by simp)⟩
    first | (rw [badS h13]) | (obtain rfl : at_ = 0 := (by omega); rfl)
  · skip
    have q13 := h13
    try simp only [decide_eq_true_eq, decide_eq_false_iff_not, beq_iff_eq, beq_eq_false_iff_ne, bne_iff_ne, ne_eq, bne_eq_false_iff_eq, Int.not_lt, Int.not_le] at q13
    refine wc_skip ?_
    refine fq_then ?_
    refine wc_seq ?_
    refine wc_region ?_
    refine wl_q (q_move rfl rfl) rfl rfl (by decide) ?_
    refine wl_q (q_not rfl rfl) rfl rfl (by decide) ?_
    refine wl_q (q_assign rfl rfl) rfl rfl (by decide) ?_
    refine wl_nil ?_
    refine fq_then ?_
    refine wc_ret ?_
    refine fq_ret1 rfl rfl (fun w1 H => ?_)
    refine ⟨congrArg (fun z => Ending.returned (Value.bool z)) ?_, H.toBelow (by simp)⟩
    first | (rw [badS h13]) | (obtain rfl : at_ = 0 := (by omega); rfl)

theorem frees2_calls (car from_ F0 : Int) (A : Option Addr) (c : Nat) (l : List PAll.S44) (w : World) (ad : Addr) (PA : Nat → Option Addr) (PC : Nat → Nat) (F : Facts44 w A l ad PA PC) (hF0 : (from_ < 0 → F0 = 0) ∧ (0 ≤ from_ → F0 = from_)) (hok : ∀ j, j < l.length → 0 ≤ (l.getD j PAll.z44).f4 ∧ (l.getD j PAll.z44).f4 < 18446744073709551616) (hsz : l.length ≤ 1000000) : Calls Tryd.prog 14 #[.slice A l.length c, .int .i64 car, .int .i64 from_] w fun e w' => e = .returned (.int .i64 (resI (fun j => refHas (l.getD (F0.toNat + j) PAll.z44).f4 car) (l.length - F0.toNat))) ∧ Below w.heap.size w w' := by
  have hF1 : 0 ≤ F0 := by omega
  refine enter (w0 := w) (hp := [old w]) (env := [(0, .slice A l.length c), (1, .int .i64 car), (2, .int .i64 from_)]) Tryd.func14 rfl 29 rfl (by simp) rfl (HeapOK.start _) ?_
  refine wc_seq ?_
  refine wc_region ?_
  refine wl_q (q_assign rfl rfl) rfl rfl (by decide) ?_
  refine wl_nil ?_
  refine fq_then ?_
  refine wc_seq ?_
  refine wc_seq ?_
  refine wc_region ?_
  refine wl_q (q_move rfl rfl) rfl rfl (by decide) ?_
  refine wl_q (q_bin rfl rfl rfl rfl) rfl rfl (by decide) ?_
  refine wl_nil ?_
  refine fq_then ?_
  refine wc_cond rfl (fun h10 => ?_) (fun h10 => ?_)
  · skip
    have q10 := h10
    try simp only [decide_eq_true_eq, decide_eq_false_iff_not, beq_iff_eq, beq_eq_false_iff_ne, bne_iff_ne, ne_eq, bne_eq_false_iff_eq, Int.not_lt, Int.not_le] at q10
    refine wc_region ?_
    refine wl_q (q_assign rfl rfl) rfl rfl (by decide) ?_
    refine wl_nil ?_
    refine fq_then ?_
    refine wc_seq ?_
    refine wc_seq ?_
    refine wc_region ?_
    refine wl_q (q_move rfl rfl) rfl rfl (by decide) ?_
    refine wl_q (q_assign rfl rfl) rfl rfl (by decide) ?_
    refine wl_nil ?_
    refine fq_then ?_
    refine wc_block ?_
    refine wc_loop (ι := Nat) (fun k => [(0, .slice A l.length c), (1, .int .i64 car), (2, .int .i64 F0), (7, .int .i64 (F0 + k))]) (fun k => [old w]) (fun k => (k = 0 ∨ F0 + k ≤ l.length) ∧ ∀ j, j < k → refHas (l.getD (F0.toNat + j) PAll.z44).f4 car = false) (fun k => l.length + 1 - (F0.toNat + k)) 0 ⟨.inl rfl, fun j h => absurd h (Nat.not_lt_zero _)⟩ ⟨List.forall_mem_cons.2 ⟨rfl, List.forall_mem_cons.2 ⟨rfl, List.forall_mem_cons.2 ⟨(congrArg (fun z => some (Value.int .i64 z)) (by omega)), List.forall_mem_cons.2 ⟨(congrArg (fun z => some (Value.int .i64 z)) (by omega)), fun _ h => (by cases h)⟩⟩⟩⟩, List.Sublist.refl _⟩ ?_
    rintro k ⟨hkn, hno⟩
    refine wc_seq ?_
    refine wc_seq ?_
    refine wc_region ?_
    refine wl_q (q_move rfl rfl) rfl rfl (by decide) ?_
    refine wl_q (q_move rfl rfl) rfl rfl (by decide) ?_
    refine wl_q (q_len rfl rfl Tryd.underlying25) rfl rfl (by decide) ?_
    refine wl_q (q_bin rfl rfl rfl rfl) rfl rfl (by decide) ?_
    refine wl_nil ?_
    refine fq_then ?_
    refine wc_cond rfl (fun h15 => ?_) (fun h15 => ?_)
    · skip
      have q15 := h15
      try simp only [decide_eq_true_eq, decide_eq_false_iff_not, beq_iff_eq, beq_eq_false_iff_ne, bne_iff_ne, ne_eq, bne_eq_false_iff_eq, Int.not_lt, Int.not_le] at q15
      have hlt : F0.toNat + k < l.length := by omega
      refine wc_skip ?_
      refine fq_then ?_
      refine wc_seq ?_
      refine wc_block ?_
      refine wc_seq ?_
      refine wc_region ?_
      refine wl_q (q_move rfl rfl) rfl rfl (by decide) ?_
      refine wl_q (q_move rfl rfl) rfl rfl (by decide) ?_
      refine wl_q (q_indexO rfl rfl (F.hA (by omega)) rfl Tryd.underlying25 Sz44 (by omega) (by omega)) rfl rfl (by decide) ?_
      refine wl_q (q_fieldAddr rfl rfl Fo44_4) rfl rfl (by decide) ?_
      refine wl_q (q_load (v := .int .u64 (l.getD (F0.toNat + k) PAll.z44).f4) rfl rfl Mn38 (reads_old (by simp) (fun j u hu => by cases j with | zero => (cases hu; rw [show (F0 + (k : Int)).toNat = F0.toNat + k by omega]; exact F.cell (F0.toNat + k) hlt 4 _ rfl) | succ j => simp at hu))) rfl rfl (by decide) ?_
      refine wl_q (q_move rfl rfl) rfl rfl (by decide) ?_
      refine wl_q (q_call rfl En26 rfl (fun w1 hw1 => has2_calls _ car w1 (hok _ hlt).1 (hok _ hlt).2)) rfl rfl (by decide) ?_
      refine wl_q (q_assign rfl rfl) rfl rfl (by decide) ?_
      refine wl_nil ?_
      refine fq_then ?_
      refine wc_seq ?_
      refine wc_region ?_
      refine wl_q (q_move rfl rfl) rfl rfl (by decide) ?_
      refine wl_nil ?_
      refine fq_then ?_
      refine wc_cond rfl (fun h25 => ?_) (fun h25 => ?_)
      · skip
        have q25 := h25
        try simp only [decide_eq_true_eq, decide_eq_false_iff_not, beq_iff_eq, beq_eq_false_iff_ne, bne_iff_ne, ne_eq, bne_eq_false_iff_eq, Int.not_lt, Int.not_le] at q25
        refine wc_seq ?_
        refine wc_region ?_
        refine wl_q (q_move rfl rfl) rfl rfl (by decide) ?_
        refine wl_q (q_move rfl rfl) rfl rfl (by decide) ?_
        refine wl_q (q_bin rfl rfl rfl rfl) rfl rfl (by decide) ?_
        refine wl_eq (t := 28) rfl (congrArg (Value.int .i64) ((wid (by omega) (by omega)).trans (show F0 + (k : Int) - F0 = k by omega))) ?_
        refine wl_q (q_assign rfl rfl) rfl rfl (by decide) ?_
        refine wl_nil ?_
        refine fq_then ?_
        refine wc_ret ?_
        refine fq_block_ret ?_
        refine fq_then_ret ?_
        refine fq_then_ret ?_
        refine fq_block_ret ?_
        refine fq_then_ret ?_
        refine fq_ret1 rfl rfl (fun w1 H => ?_)
        refine ⟨congrArg (fun z => Ending.returned (Value.int .i64 z)) ?_, H.toBelow (by simp)⟩
        first
          | (exact (resI_hit (ans := fun j => refHas (l.getD (F0.toNat + j) PAll.z44).f4 car) h25 (by omega) hno).1.symm)
          | (exact (resI_none (ans := fun j => refHas (l.getD (F0.toNat + j) PAll.z44).f4 car) (n := l.length - F0.toNat) (fun j hj => hno j (by omega))).1.symm)
      · skip
        have q25 := h25
        try simp only [decide_eq_true_eq, decide_eq_false_iff_not, beq_iff_eq, beq_eq_false_iff_ne, bne_iff_ne, ne_eq, bne_eq_false_iff_eq, Int.not_lt, Int.not_le] at q25
        refine wc_skip ?_
        refine fq_block ?_
        refine fq_then ?_
        refine wc_region ?_
        refine wl_q (q_move rfl rfl) rfl rfl (by decide) ?_
        refine wl_q (q_bin rfl rfl rfl rfl) rfl rfl (by decide) ?_
        refine wl_q (q_assign rfl rfl) rfl rfl (by decide) ?_
        refine wl_nil ?_
        refine fq_next (k + 1) ⟨.inr (by omega), fun j hj => (Nat.lt_succ_iff_lt_or_eq.1 hj).elim (hno j) (fun e => e ▸ h25)⟩ (by omega) ⟨List.forall_mem_cons.2 ⟨rfl, List.forall_mem_cons.2 ⟨rfl, List.forall_mem_cons.2 ⟨rfl, List.forall_mem_cons.2 ⟨(congrArg (fun z => some (Value.int .i64 z)) ((wid (by omega) (by omega)).trans (by omega))), fun _ h => (by cases h)⟩⟩⟩⟩, List.Sublist.refl _⟩
    · skip
      have q15 := h15
      try simp only [decide_eq_true_eq, decide_eq_false_iff_not, beq_iff_eq, beq_eq_false_iff_ne, bne_iff_ne, ne_eq, bne_eq_false_iff_eq, Int.not_lt, Int.not_le] at q15
      refine wc_exit ?_
      refine fq_then_exit ?_
      refine fq_then_exit ?_
      refine fq_block_hit ?_
      refine fq_then ?_
      refine wc_seq ?_
      refine wc_region ?_
      refine wl_q (q_assign rfl rfl) rfl rfl (by decide) ?_
      refine wl_nil ?_
      refine fq_then ?_
      refine wc_ret ?_
      refine fq_ret1 rfl rfl (fun w1 H => ?_)
      refine ⟨congrArg (fun z => Ending.returned (Value.int .i64 z)) ?_, H.toBelow (by simp)⟩
      first
        | (exact (resI_hit (ans := fun j => refHas (l.getD (F0.toNat + j) PAll.z44).f4 car) h25 (by omega) hno).1.symm)
        | (exact (resI_none (ans := fun j => refHas (l.getD (F0.toNat + j) PAll.z44).f4 car) (n := l.length - F0.toNat) (fun j hj => hno j (by omega))).1.symm)
  · skip
    have q10 := h10
    try simp only [decide_eq_true_eq, decide_eq_false_iff_not, beq_iff_eq, beq_eq_false_iff_ne, bne_iff_ne, ne_eq, bne_eq_false_iff_eq, Int.not_lt, Int.not_le] at q10
    refine wc_skip ?_
    refine fq_then ?_
    refine wc_seq ?_
    refine wc_seq ?_
    refine wc_region ?_
    refine wl_q (q_move rfl rfl) rfl rfl (by decide) ?_
    refine wl_q (q_assign rfl rfl) rfl rfl (by decide) ?_
    refine wl_nil ?_
    refine fq_then ?_
    refine wc_block ?_
    refine wc_loop (ι := Nat) (fun k => [(0, .slice A l.length c), (1, .int .i64 car), (2, .int .i64 F0), (7, .int .i64 (F0 + k))]) (fun k => [old w]) (fun k => (k = 0 ∨ F0 + k ≤ l.length) ∧ ∀ j, j < k → refHas (l.getD (F0.toNat + j) PAll.z44).f4 car = false) (fun k => l.length + 1 - (F0.toNat + k)) 0 ⟨.inl rfl, fun j h => absurd h (Nat.not_lt_zero _)⟩ ⟨List.forall_mem_cons.2 ⟨rfl, List.forall_mem_cons.2 ⟨rfl, List.forall_mem_cons.2 ⟨(congrArg (fun z => some (Value.int .i64 z)) (by omega)), List.forall_mem_cons.2 ⟨(congrArg (fun z => some (Value.int .i64 z)) (by omega)), fun _ h => (by cases h)⟩⟩⟩⟩, List.Sublist.refl _⟩ ?_
    rintro k ⟨hkn, hno⟩
    refine wc_seq ?_
    refine wc_seq ?_
    refine wc_region ?_
    refine wl_q (q_move rfl rfl) rfl rfl (by decide) ?_
    refine wl_q (q_move rfl rfl) rfl rfl (by decide) ?_
    refine wl_q (q_len rfl rfl Tryd.underlying25) rfl rfl (by decide) ?_
    refine wl_q (q_bin rfl rfl rfl rfl) rfl rfl (by decide) ?_
    refine wl_nil ?_
    refine fq_then ?_
    refine wc_cond rfl (fun h15 => ?_) (fun h15 => ?_)
    · skip
      have q15 := h15
      try simp only [decide_eq_true_eq, decide_eq_false_iff_not, beq_iff_eq, beq_eq_false_iff_ne, bne_iff_ne, ne_eq, bne_eq_false_iff_eq, Int.not_lt, Int.not_le] at q15
      have hlt : F0.toNat + k < l.length := by omega
      refine wc_skip ?_
      refine fq_then ?_
      refine wc_seq ?_
      refine wc_block ?_
      refine wc_seq ?_
      refine wc_region ?_
      refine wl_q (q_move rfl rfl) rfl rfl (by decide) ?_
      refine wl_q (q_move rfl rfl) rfl rfl (by decide) ?_
      refine wl_q (q_indexO rfl rfl (F.hA (by omega)) rfl Tryd.underlying25 Sz44 (by omega) (by omega)) rfl rfl (by decide) ?_
      refine wl_q (q_fieldAddr rfl rfl Fo44_4) rfl rfl (by decide) ?_
      refine wl_q (q_load (v := .int .u64 (l.getD (F0.toNat + k) PAll.z44).f4) rfl rfl Mn38 (reads_old (by simp) (fun j u hu => by cases j with | zero => (cases hu; rw [show (F0 + (k : Int)).toNat = F0.toNat + k by omega]; exact F.cell (F0.toNat + k) hlt 4 _ rfl) | succ j => simp at hu))) rfl rfl (by decide) ?_
      refine wl_q (q_move rfl rfl) rfl rfl (by decide) ?_
      refine wl_q (q_call rfl En26 rfl (fun w1 hw1 => has2_calls _ car w1 (hok _ hlt).1 (hok _ hlt).2)) rfl rfl (by decide) ?_
      refine wl_q (q_assign rfl rfl) rfl rfl (by decide) ?_
      refine wl_nil ?_
      refine fq_then ?_
      refine wc_seq ?_
      refine wc_region ?_
      refine wl_q (q_move rfl rfl) rfl rfl (by decide) ?_
      refine wl_nil ?_
      refine fq_then ?_
      refine wc_cond rfl (fun h25 => ?_) (fun h25 => ?_)
      · skip
        have q25 := h25
        try simp only [decide_eq_true_eq, decide_eq_false_iff_not, beq_iff_eq, beq_eq_false_iff_ne, bne_iff_ne, ne_eq, bne_eq_false_iff_eq, Int.not_lt, Int.not_le] at q25
        refine wc_seq ?_
        refine wc_region ?_
        refine wl_q (q_move rfl rfl) rfl rfl (by decide) ?_
        refine wl_q (q_move rfl rfl) rfl rfl (by decide) ?_
        refine wl_q (q_bin rfl rfl rfl rfl) rfl rfl (by decide) ?_
        refine wl_eq (t := 28) rfl (congrArg (Value.int .i64) ((wid (by omega) (by omega)).trans (show F0 + (k : Int) - F0 = k by omega))) ?_
        refine wl_q (q_assign rfl rfl) rfl rfl (by decide) ?_
        refine wl_nil ?_
        refine fq_then ?_
        refine wc_ret ?_
        refine fq_block_ret ?_
        refine fq_then_ret ?_
        refine fq_then_ret ?_
        refine fq_block_ret ?_
        refine fq_then_ret ?_
        refine fq_ret1 rfl rfl (fun w1 H => ?_)
        refine ⟨congrArg (fun z => Ending.returned (Value.int .i64 z)) ?_, H.toBelow (by simp)⟩
        first
          | (exact (resI_hit (ans := fun j => refHas (l.getD (F0.toNat + j) PAll.z44).f4 car) h25 (by omega) hno).1.symm)
          | (exact (resI_none (ans := fun j => refHas (l.getD (F0.toNat + j) PAll.z44).f4 car) (n := l.length - F0.toNat) (fun j hj => hno j (by omega))).1.symm)
      · skip
        have q25 := h25
        try simp only [decide_eq_true_eq, decide_eq_false_iff_not, beq_iff_eq, beq_eq_false_iff_ne, bne_iff_ne, ne_eq, bne_eq_false_iff_eq, Int.not_lt, Int.not_le] at q25
        refine wc_skip ?_
        refine fq_block ?_
        refine fq_then ?_
        refine wc_region ?_
        refine wl_q (q_move rfl rfl) rfl rfl (by decide) ?_
        refine wl_q (q_bin rfl rfl rfl rfl) rfl rfl (by decide) ?_
        refine wl_q (q_assign rfl rfl) rfl rfl (by decide) ?_
        refine wl_nil ?_
        refine fq_next (k + 1) ⟨.inr (by omega), fun j hj => (Nat.lt_succ_iff_lt_or_eq.1 hj).elim (hno j) (fun e => e ▸ h25)⟩ (by omega) ⟨List.forall_mem_cons.2 ⟨rfl, List.forall_mem_cons.2 ⟨rfl, List.forall_mem_cons.2 ⟨rfl, List.forall_mem_cons.2 ⟨(congrArg (fun z => some (Value.int .i64 z)) ((wid (by omega) (by omega)).trans (by omega))), fun _ h => (by cases h)⟩⟩⟩⟩, List.Sublist.refl _⟩
    · skip
      have q15 := h15
      try simp only [decide_eq_true_eq, decide_eq_false_iff_not, beq_iff_eq, beq_eq_false_iff_ne, bne_iff_ne, ne_eq, bne_eq_false_iff_eq, Int.not_lt, Int.not_le] at q15
      refine wc_exit ?_
      refine fq_then_exit ?_
      refine fq_then_exit ?_
      refine fq_block_hit ?_
      refine fq_then ?_
      refine wc_seq ?_
      refine wc_region ?_
      refine wl_q (q_assign rfl rfl) rfl rfl (by decide) ?_
      refine wl_nil ?_
      refine fq_then ?_
      refine wc_ret ?_
      refine fq_ret1 rfl rfl (fun w1 H => ?_)
      refine ⟨congrArg (fun z => Ending.returned (Value.int .i64 z)) ?_, H.toBelow (by simp)⟩
      first
        | (exact (resI_hit (ans := fun j => refHas (l.getD (F0.toNat + j) PAll.z44).f4 car) h25 (by omega) hno).1.symm)
        | (exact (resI_none (ans := fun j => refHas (l.getD (F0.toNat + j) PAll.z44).f4 car) (n := l.length - F0.toNat) (fun j hj => hno j (by omega))).1.symm)

end Go.Proofs.YthpfhglncbkinaaDoor.SF
