/- Walks (no statement stands here). -/
import Derived.Test.YthpfhglncbkinaaDoorSw3
import Derived.Test.YthpfhglncbkinaaDoorPAllx0
import Derived.Test.YthpfhglncbkinaaDoorWMore
import Derived.Test.YthpfhglncbkinaaDoorWLast
namespace Go.Proofs.YthpfhglncbkinaaDoor.SF
open Go.RowKit Go.Sx Go.Proofs.YthpfhglncbkinaaDoorW.PrintWords Go.Proofs.YthpfhglncbkinaaDoorW.PrintLast Go.Proofs.YthpfhglncbkinaaDoorW.PrintMore
set_option linter.unusedVariables false
set_option linter.unusedSimpArgs false
set_option maxRecDepth 100000
def isB (p : Int) : Bool := decide (0 ≤ p) && decide (p < 6)
theorem isB_iff {p : Int} (h : isB p = true) : 0 ≤ p ∧ p < 6 := by
  unfold isB at h
  rw [Bool.and_eq_true, decide_eq_true_eq, decide_eq_true_eq] at h
  exact h
def nextL : List Int := [35, 39, 46, 59, 59, 35]
def NextL (w : World) : Prop := ∀ i < 6, w.cell? ⟨0, i, none⟩ = some (.int .i64 (nextL.getD i 0))
theorem NextL.below {w w1 : World} (h : NextL w) (hb : Below w.heap.size w w1) : NextL w1 := fun i hi => pw_cell_below hb (h i hi)
theorem next_reads {w : World} (h : NextL w) {f : Int} (h0 : 0 ≤ f) (h1 : f < 6) : Reads w [old w] ⟨0, 0 + f.toNat * 1, none⟩ [.int .i64 (nextL.getD f.toNat 0)] := by
  refine reads_old (by simp) (fun j u hu => ?_)
  cases j with
  | zero =>
    cases hu
    rw [add_zero, Nat.zero_add, Nat.mul_one]
    exact h f.toNat (by omega)
  | succ j => simp at hu
def mayB (f t : Int) : Bool := isB f && (isB t && (bits .and .i64 ((nextL.getD f.toNat 0).fdiv (2 ^ (min t.toNat IntKind.i64.bits))) 1 == 1))
/-- What is read of a row of numbers. -/
structure IntRow (w : World) (A : Option Addr) (l : List Int) (ad : Addr) : Prop where
  hA : 0 < l.length → A = some ad
  hn : l.length ≤ 9223372036854775807
  cell : ∀ j, j < l.length → w.cell? (ad.add j) = some (.int .i64 (l.getD j 0))
theorem introw_of {w : World} {A : Option Addr} {l : List Int} (h : Kd.C (Kd.int .i64) w A l.length l) : ∃ ad, IntRow w A l ad := by
  rcases Nat.eq_zero_or_pos l.length with h0 | h0
  · exact ⟨⟨0, 0, none⟩, fun h => by omega, by omega, fun j hj => by omega⟩
  · obtain ⟨_, hn, hr⟩ := h
    obtain ⟨ad, rfl, hc⟩ := hr h0
    refine ⟨ad, fun _ => rfl, hn, fun j hj => ?_⟩
    obtain ⟨c, hs, hK, hcell⟩ := hc j (l.getD j 0) (by rw [List.getD_eq_getElem?_getD, List.getElem?_eq_getElem hj]; rfl)
    obtain rfl : c = [.int .i64 (l.getD j 0)] := hK
    have := hcell 0 _ rfl
    simpa [Kd.int, Kd.scalar] using this
theorem IntRow.reads {w : World} {A : Option Addr} {l : List Int} {ad : Addr} (h : IntRow w A l ad) {hp : List Sx.Item} (hm : old w ∈ hp) {k : Nat} (hk : k < l.length) : Reads w hp (ad.add (((k : Nat) : Int).toNat * 1)) [.int .i64 (l.getD k 0)] := by
  refine reads_old hm (fun j u hu => ?_)
  cases j with
  | zero =>
    cases hu
    rw [add_zero, Int.toNat_natCast, Nat.mul_one]
    exact h.cell k hk
  | succ j => simp at hu
def cn (l : List Int) (q : Int) : Int := (l.count q : Nat)
def cnts (l : List Int) : List Value := [.int .i64 (cn l 0), .int .i64 (cn l 1), .int .i64 (cn l 2), .int .i64 (cn l 3), .int .i64 (cn l 4), .int .i64 (cn l 5)]
theorem cn_le (l : List Int) (q : Int) : 0 ≤ cn l q ∧ cn l q ≤ l.length := ⟨Int.natCast_nonneg _, Int.ofNat_le.2 List.count_le_length⟩
theorem cn_add (a b : Int) (hab : a ≠ b) : ∀ l : List Int, cn l a + cn l b ≤ l.length
  | [] => by simp [cn]
  | x :: r => by
    have := cn_add a b hab r
    unfold cn at *
    simp only [List.count_cons, List.length_cons]
    by_cases h1 : x = a
    · subst h1
      have h2 : ¬ x = b := hab
      simp [h2]; omega
    · by_cases h2 : x = b
      · subst h2; simp [h1]; omega
      · simp [h1, h2]; omega
theorem six {p : Int} (h0 : 0 ≤ p) (h1 : p < 6) : p = 0 ∨ p = 1 ∨ p = 2 ∨ p = 3 ∨ p = 4 ∨ p = 5 := by omega
theorem cnts_get (l : List Int) {p : Int} (h0 : 0 ≤ p) (h1 : p < 6) : (cnts l)[0 + p.toNat * 1]? = some (.int .i64 (cn l p)) := by
  rcases six h0 h1 with rfl | rfl | rfl | rfl | rfl | rfl <;> rfl
theorem cnt_one (l : List Int) (p q : Int) : cn (l ++ [p]) q = cn l q + (if p = q then 1 else 0) := by
  unfold cn
  rw [List.count_append, List.count_singleton]
  by_cases h : p = q
  · subst h; simp
  · simp [h]
theorem take_one (l : List Int) (k : Nat) (hk : k < l.length) : l.take (k + 1) = l.take k ++ [l.getD k 0] := by
  rw [List.take_succ_eq_append_getElem hk, List.getD_eq_getElem?_getD, List.getElem?_eq_getElem hk]
  rfl
theorem cnts_set (l : List Int) (k : Nat) (hk : k < l.length) (hn : l.length ≤ 9223372036854775807) (h : isB (l.getD k 0) = true) :
    (cnts (l.take k)).take (0 + (l.getD k 0).toNat * 1) ++ [.int .i64 (IntKind.i64.wrap (cn (l.take k) (l.getD k 0) + 1))] ++ (cnts (l.take k)).drop (0 + (l.getD k 0).toNat * 1 + [Value.int .i64 (IntKind.i64.wrap (cn (l.take k) (l.getD k 0) + 1))].length) = cnts (l.take (k + 1)) := by
  obtain ⟨h0, h1⟩ := isB_iff h
  rw [take_one l k hk]
  have hle := cn_le (l.take k) (l.getD k 0)
  rw [List.length_take] at hle
  generalize l.getD k 0 = p at *
  have hw : IntKind.i64.wrap (cn (l.take k) p + 1) = cn (l.take k) p + 1 := by rw [i64_w]; unfold wrap64; omega
  rw [hw]
  unfold cnts
  simp only [cnt_one]
  rcases six h0 h1 with rfl | rfl | rfl | rfl | rfl | rfl <;> simp
def fitsB (l : List Int) : Bool := l.all isB && (((cn l 0 == 0) || (cn l 0 + cn l 5 == (l.length : Int))) && decide (cn l 2 + cn l 4 ≤ 1))
theorem wsum {l : List Int} (hn : l.length ≤ 9223372036854775807) {a b : Int} (hab : a ≠ b) : IntKind.i64.wrap (cn l a + cn l b) = cn l a + cn l b := by
  have h1 := cn_add a b hab l
  have h2 := cn_le l a
  have h3 := cn_le l b
  rw [i64_w]; unfold wrap64; omega
theorem all_take {l : List Int} {k : Nat} (hk : k < l.length) (h : ∀ x ∈ l.take k, isB x = true) (hx : isB (l.getD k 0) = true) : ∀ x ∈ l.take (k + 1), isB x = true := by
  rw [take_one l k hk]
  intro x hm
  rcases List.mem_append.1 hm with hm | hm
  · exact h x hm
  · rw [List.mem_singleton.1 hm]; exact hx
theorem fits_no {l : List Int} {k : Nat} (hk : k < l.length) (hx : isB (l.getD k 0) = false) : fitsB l = false := by
  have : l.all isB = false := by
    rw [List.all_eq_false]
    refine ⟨l.getD k 0, ?_, by rw [hx]; exact Bool.false_ne_true⟩
    rw [List.getD_eq_getElem?_getD, List.getElem?_eq_getElem hk]
    exact List.getElem_mem hk
  simp [fitsB, this]
def followsB (a b : List Int) : Bool := (a.length == b.length) && (fitsB a && (fitsB b && (List.range a.length).all (fun k => mayB (a.getD k 0) (b.getD k 0))))
theorem len_ne {n m : Nat} : ((n : Int) != (m : Int)) = !(n == m) := by
  rw [Bool.eq_iff_iff, bne_iff_ne, Bool.not_eq_true', beq_eq_false_iff_ne]
  omega
theorem fol1 {a b : List Int} (h : ((a.length : Int) != (b.length : Int)) = true) : followsB a b = false := by
  rw [len_ne] at h
  have : (a.length == b.length) = false := by simpa using h
  unfold followsB; rw [this]; rfl
theorem fol2 {a b : List Int} (h : (!fitsB a) = true) : followsB a b = false := by
  have : fitsB a = false := by simpa using h
  unfold followsB; rw [this, Bool.false_and, Bool.and_false]
theorem fol3 {a b : List Int} (h : (!fitsB b) = true) : followsB a b = false := by
  have : fitsB b = false := by simpa using h
  unfold followsB; rw [this, Bool.false_and, Bool.and_false, Bool.and_false]
theorem fol4 {a b : List Int} {k : Nat} (hk : k < a.length) (h : mayB (a.getD k 0) (b.getD k 0) = false) : followsB a b = false := by
  have : (List.range a.length).all (fun k => mayB (a.getD k 0) (b.getD k 0)) = false := by
    rw [List.all_eq_false]
    exact ⟨k, List.mem_range.2 hk, by rw [h]; exact Bool.false_ne_true⟩
  unfold followsB; rw [this, Bool.and_false, Bool.and_false, Bool.and_false]
theorem fol5 {a b : List Int} (h : a.length = b.length) (ha : fitsB a = true) (hb : fitsB b = true) (hk : ∀ j, j < a.length → mayB (a.getD j 0) (b.getD j 0) = true) : followsB a b = true := by
  have : (List.range a.length).all (fun k => mayB (a.getD k 0) (b.getD k 0)) = true := by
    rw [List.all_eq_true]
    exact fun k hk' => hk k (List.mem_range.1 hk')
  unfold followsB; rw [this, ha, hb, h]; simp

theorem is_calls (p : Int) (w : World) : Calls Tryd.prog 38 #[.int .i64 p] w fun e w' => e = .returned (.bool (isB p)) ∧ Below w.heap.size w w' := by
  refine enter (w0 := w) (hp := [old w]) (env := [(0, .int .i64 p)]) Tryd.func38 rfl 9 rfl (by simp) rfl (HeapOK.start _) ?_
  refine wc_seq ?_
  refine wc_region ?_
  refine wl_q (q_assign rfl rfl) rfl rfl (by decide) ?_
  refine wl_nil ?_
  refine fq_then ?_
  refine wc_seq ?_
  refine wc_region ?_
  refine wl_q (q_move rfl rfl) rfl rfl (by decide) ?_
  refine wl_q (q_bin rfl rfl rfl rfl) rfl rfl (by decide) ?_
  refine wl_q (q_move rfl rfl) rfl rfl (by decide) ?_
  refine wl_split (t := 5) rfl (fun h5 => ?_) (fun h5 => ?_)
  · skip
    refine wl_want (b := true) (q_move rfl rfl) rfl rfl rfl rfl (by decide) ?_
    refine wl_want (b := true) (q_bin rfl rfl rfl rfl) rfl rfl rfl rfl (by decide) ?_
    refine wl_q (q_pick rfl rfl rfl) rfl rfl (by decide) ?_
    refine wl_q (q_assign rfl rfl) rfl rfl (by decide) ?_
    refine wl_nil ?_
    refine fq_then ?_
    refine wc_ret ?_
    refine fq_ret1 rfl rfl (fun w1 H => ?_)
    exact ⟨by unfold isB; rw [h5]; rfl, H.toBelow (by simp)⟩
  · skip
    refine wl_skip (b := false) rfl rfl rfl rfl (by decide) ?_
    refine wl_skip (b := false) rfl rfl rfl rfl (by decide) ?_
    refine wl_q (q_pick rfl rfl rfl) rfl rfl (by decide) ?_
    refine wl_q (q_assign rfl rfl) rfl rfl (by decide) ?_
    refine wl_nil ?_
    refine fq_then ?_
    refine wc_ret ?_
    refine fq_ret1 rfl rfl (fun w1 H => ?_)
    exact ⟨by unfold isB; rw [h5]; rfl, H.toBelow (by simp)⟩

theorem may_calls (f t : Int) (w : World) (hl : NextL w) : Calls Tryd.prog 39 #[.int .i64 f, .int .i64 t] w fun e w' => e = .returned (.bool (mayB f t)) ∧ Below w.heap.size w w' := by
  refine enter (w0 := w) (hp := [old w]) (env := [(0, .int .i64 f), (1, .int .i64 t)]) Tryd.func39 rfl 20 rfl (by simp) rfl (HeapOK.start _) ?_
  refine wc_seq ?_
  refine wc_region ?_
  refine wl_q (q_assign rfl rfl) rfl rfl (by decide) ?_
  refine wl_nil ?_
  refine fq_then ?_
  refine wc_seq ?_
  refine wc_region ?_
  refine wl_q (q_move rfl rfl) rfl rfl (by decide) ?_
  refine wl_q (q_call rfl En38 rfl (fun w1 _ => is_calls _ _)) rfl rfl (by decide) ?_
  refine wl_q (q_move rfl rfl) rfl rfl (by decide) ?_
  refine wl_split (t := 7) rfl (fun h7 => ?_) (fun h7 => ?_)
  · skip
    refine wl_want (b := true) (q_move rfl rfl) rfl rfl rfl rfl (by decide) ?_
    refine wl_want (b := true) (q_call rfl En38 rfl (fun w1 _ => is_calls _ _)) rfl rfl rfl rfl (by decide) ?_
    refine wl_q (q_pick rfl rfl rfl) rfl rfl (by decide) ?_
    refine wl_q (q_move rfl rfl) rfl rfl (by decide) ?_
    refine wl_split (t := 11) rfl (fun h11 => ?_) (fun h11 => ?_)
    · skip
      refine wl_want (b := true) (q_move rfl rfl) rfl rfl rfl rfl (by decide) ?_
      refine wl_want (b := true) (q_ia rfl rfl rfl Tryd.underlying71 Sz3 (isB_iff h7).1 (isB_iff h7).2 rfl) rfl rfl rfl rfl (by decide) ?_
      refine wl_want (b := true) (q_load rfl rfl Mn3 (next_reads hl (isB_iff h7).1 (isB_iff h7).2)) rfl rfl rfl rfl (by decide) ?_
      refine wl_want (b := true) (q_move rfl rfl) rfl rfl rfl rfl (by decide) ?_
      refine wl_want (b := true) (q_shr rfl rfl rfl (isB_iff h11).1) rfl rfl rfl rfl (by decide) ?_
      refine wl_want (b := true) (q_bin rfl rfl rfl rfl) rfl rfl rfl rfl (by decide) ?_
      refine wl_want (b := true) (q_bin rfl rfl rfl rfl) rfl rfl rfl rfl (by decide) ?_
      refine wl_q (q_pick rfl rfl rfl) rfl rfl (by decide) ?_
      refine wl_q (q_assign rfl rfl) rfl rfl (by decide) ?_
      refine wl_nil ?_
      refine fq_then ?_
      refine wc_ret ?_
      refine fq_ret1 rfl rfl (fun w1 H => ?_)
      exact ⟨by unfold mayB; first | (rw [h7, h11]; rfl) | (rw [h7, Bool.true_and, h11]; rfl) | (rw [h7]; rfl), H.toBelow (by simp)⟩
    · skip
      refine wl_skip (b := false) rfl rfl rfl rfl (by decide) ?_
      refine wl_skip (b := false) rfl rfl rfl rfl (by decide) ?_
      refine wl_skip (b := false) rfl rfl rfl rfl (by decide) ?_
      refine wl_skip (b := false) rfl rfl rfl rfl (by decide) ?_
      refine wl_skip (b := false) rfl rfl rfl rfl (by decide) ?_
      refine wl_skip (b := false) rfl rfl rfl rfl (by decide) ?_
      refine wl_skip (b := false) rfl rfl rfl rfl (by decide) ?_
      refine wl_q (q_pick rfl rfl rfl) rfl rfl (by decide) ?_
      refine wl_q (q_assign rfl rfl) rfl rfl (by decide) ?_
      refine wl_nil ?_
      refine fq_then ?_
      refine wc_ret ?_
      refine fq_ret1 rfl rfl (fun w1 H => ?_)
      exact ⟨by unfold mayB; first | (rw [h7, h11]; rfl) | (rw [h7, Bool.true_and, h11]; rfl) | (rw [h7]; rfl), H.toBelow (by simp)⟩
  · skip
    refine wl_skip (b := false) rfl rfl rfl rfl (by decide) ?_
    refine wl_skip (b := false) rfl rfl rfl rfl (by decide) ?_
    refine wl_q (q_pick rfl rfl rfl) rfl rfl (by decide) ?_
    refine wl_q (q_move rfl rfl) rfl rfl (by decide) ?_
    refine wl_skip (b := false) rfl rfl rfl rfl (by decide) ?_
    refine wl_skip (b := false) rfl rfl rfl rfl (by decide) ?_
    refine wl_skip (b := false) rfl rfl rfl rfl (by decide) ?_
    refine wl_skip (b := false) rfl rfl rfl rfl (by decide) ?_
    refine wl_skip (b := false) rfl rfl rfl rfl (by decide) ?_
    refine wl_skip (b := false) rfl rfl rfl rfl (by decide) ?_
    refine wl_skip (b := false) rfl rfl rfl rfl (by decide) ?_
    refine wl_q (q_pick rfl rfl rfl) rfl rfl (by decide) ?_
    refine wl_q (q_assign rfl rfl) rfl rfl (by decide) ?_
    refine wl_nil ?_
    refine fq_then ?_
    refine wc_ret ?_
    refine fq_ret1 rfl rfl (fun w1 H => ?_)
    exact ⟨by unfold mayB; first | (rw [h7, h11]; rfl) | (rw [h7, Bool.true_and, h11]; rfl) | (rw [h7]; rfl), H.toBelow (by simp)⟩

theorem fits_calls (A : Option Addr) (c : Nat) (l : List Int) (w : World) (hr : Kd.C (Kd.int .i64) w A l.length l) : Calls Tryd.prog 27 #[.slice A l.length c] w fun e w' => e = .returned (.bool (fitsB l)) ∧ Below w.heap.size w w' := by
  obtain ⟨ad, R⟩ := introw_of hr
  have hn := R.hn
  refine enter (w0 := w) (hp := [old w]) (env := [(0, .slice A l.length c)]) Tryd.func27 rfl 44 rfl (by simp) rfl (HeapOK.start _) ?_
  refine wc_seq ?_
  refine wc_region ?_
  refine wl_q (q_assign rfl rfl) rfl rfl (by decide) ?_
  refine wl_nil ?_
  refine fq_then ?_
  refine wc_seq ?_
  refine wc_region ?_
  refine wl_alloc rfl rfl rfl (by decide) Zr71 (fun b1 => ?_)
  refine wl_nil ?_
  refine fq_then ?_
  refine wc_seq ?_
  refine wc_seq ?_
  refine wc_region ?_
  refine wl_q (q_move rfl rfl) rfl rfl (by decide) ?_
  refine wl_q (q_len rfl rfl Tryd.underlying37) rfl rfl (by decide) ?_
  refine wl_q (q_move rfl rfl) rfl rfl (by decide) ?_
  refine wl_nil ?_
  refine fq_then ?_
  refine wc_block ?_
  refine wc_loop (ι := Nat) (fun k => [(0, .slice A l.length c), (3, .pointer (some ⟨b1, 0, none⟩)), (7, .slice A l.length c), (8, .int .i64 l.length), (9, .int .i64 k)]) (fun k => [.blk b1 (cnts (l.take k)) 71, old w]) (fun k => k ≤ l.length ∧ ∀ x ∈ l.take k, isB x = true) (fun k => l.length - k) 0 ⟨Nat.zero_le _, fun x h => by cases h⟩ ⟨List.forall_mem_cons.2 ⟨rfl, List.forall_mem_cons.2 ⟨rfl, List.forall_mem_cons.2 ⟨rfl, List.forall_mem_cons.2 ⟨rfl, List.forall_mem_cons.2 ⟨rfl, fun _ h => (by cases h)⟩⟩⟩⟩⟩, List.Sublist.refl _⟩ ?_
  rintro k ⟨hkn, hno⟩
  refine wc_seq ?_
  refine wc_region ?_
  refine wl_q (q_bin rfl rfl rfl rfl) rfl rfl (by decide) ?_
  refine wl_nil ?_
  refine fq_then ?_
  refine wc_seq ?_
  refine wc_cond rfl (fun h10 => ?_) (fun h10 => ?_)
  · skip
    have hlt : k < l.length := by simpa using h10
    refine wc_skip ?_
    refine fq_then ?_
    refine wc_seq ?_
    refine wc_block ?_
    refine wc_seq ?_
    refine wc_region ?_
    refine wl_q (q_indexO rfl rfl (R.hA (by omega)) rfl Tryd.underlying37 Sz3 (by omega) (by omega)) rfl rfl (by decide) ?_
    refine wl_q (q_load rfl rfl Mn3 (R.reads (by simp) hlt)) rfl rfl (by decide) ?_
    refine wl_q (q_assign rfl rfl) rfl rfl (by decide) ?_
    refine wl_nil ?_
    refine fq_then ?_
    refine wc_seq ?_
    refine wc_seq ?_
    refine wc_region ?_
    refine wl_q (q_move rfl rfl) rfl rfl (by decide) ?_
    refine wl_q (q_call rfl En38 rfl (fun w1 _ => is_calls _ _)) rfl rfl (by decide) ?_
    refine wl_q (q_not rfl rfl) rfl rfl (by decide) ?_
    refine wl_nil ?_
    refine fq_then ?_
    refine wc_cond rfl (fun h15 => ?_) (fun h15 => ?_)
    · skip
      have h15' : isB (l.getD k 0) = false := by simpa using h15
      refine wc_seq ?_
      refine wc_region ?_
      refine wl_q (q_assign rfl rfl) rfl rfl (by decide) ?_
      refine wl_nil ?_
      refine fq_then ?_
      refine wc_ret ?_
      refine fq_then_ret ?_
      refine fq_block_ret ?_
      refine fq_then_ret ?_
      refine fq_then_ret ?_
      refine fq_block_ret ?_
      refine fq_then_ret ?_
      refine fq_ret1 rfl rfl (fun w1 H => ?_)
      refine ⟨?_, H.toBelow (by simp)⟩
      first | (rw [fits_no hlt h15']; done) | (unfold fitsB; rw [hall, h25]; first | (rw [h36]; rfl) | rfl)
    · skip
      have h15' : isB (l.getD k 0) = true := by simpa using h15
      refine wc_skip ?_
      refine fq_then ?_
      refine wc_region ?_
      refine wl_q (q_move rfl rfl) rfl rfl (by decide) ?_
      refine wl_q (q_ia rfl rfl rfl Tryd.underlying71 Sz3 (isB_iff h15').1 (isB_iff h15').2 rfl) rfl rfl (by decide) ?_
      refine wl_q (q_load rfl rfl Mn3 (reads1 (i := 0) rfl (cnts_get _ (isB_iff h15').1 (isB_iff h15').2))) rfl rfl (by decide) ?_
      refine wl_q (q_bin rfl rfl rfl rfl) rfl rfl (by decide) ?_
      refine wl_q (q_ia rfl rfl rfl Tryd.underlying71 Sz3 (isB_iff h15').1 (isB_iff h15').2 rfl) rfl rfl (by decide) ?_
      refine wl_store (i := 0) (n := 1) (vs := [.int .i64 (IntKind.i64.wrap (cn (l.take k) (l.getD k 0) + 1))]) rfl rfl rfl rfl rfl rfl Sz3 rfl rfl (by have := (isB_iff h15').2; have := (isB_iff h15').1; show _ ≤ 6; omega) (by simp [Value.oneCell']) (cnts_set l k hlt hn h15') rfl ?_
      refine wl_nil ?_
      refine fq_block ?_
      refine fq_then ?_
      refine wc_region ?_
      refine wl_q (q_bin rfl rfl rfl rfl) rfl rfl (by decide) ?_
      refine wl_q (q_move rfl rfl) rfl rfl (by decide) ?_
      refine wl_nil ?_
      refine fq_next (k + 1) ⟨hlt, all_take hlt hno h15'⟩ (by omega) ⟨List.forall_mem_cons.2 ⟨rfl, List.forall_mem_cons.2 ⟨rfl, List.forall_mem_cons.2 ⟨rfl, List.forall_mem_cons.2 ⟨rfl, List.forall_mem_cons.2 ⟨(congrArg (fun z => some (Value.int .i64 z)) (wk1 hlt hn)), fun _ h => (by cases h)⟩⟩⟩⟩⟩, List.Sublist.refl _⟩
  · skip
    obtain rfl : k = l.length := (by have : ¬ k < l.length := (by simpa using h10); omega)
    rw [List.take_length]
    rw [List.take_length] at hno
    have hall : l.all isB = true := List.all_eq_true.2 hno
    refine wc_exit ?_
    refine fq_then_exit ?_
    refine fq_then_exit ?_
    refine fq_block_hit ?_
    refine fq_then ?_
    refine wc_seq ?_
    refine wc_region ?_
    refine wl_q (q_ia (o1 := 0) rfl rfl rfl Tryd.underlying71 Sz3 (by decide) (by decide) rfl) rfl rfl (by decide) ?_
    refine wl_q (q_load rfl rfl Mn3 (reads1 (i := 0) rfl rfl)) rfl rfl (by decide) ?_
    refine wl_q (q_bin rfl rfl rfl rfl) rfl rfl (by decide) ?_
    refine wl_q (q_move rfl rfl) rfl rfl (by decide) ?_
    refine wl_split (t := 25) rfl (fun h25 => ?_) (fun h25 => ?_)
    · skip
      refine wl_skip (b := true) rfl rfl rfl rfl (by decide) ?_
      refine wl_skip (b := true) rfl rfl rfl rfl (by decide) ?_
      refine wl_skip (b := true) rfl rfl rfl rfl (by decide) ?_
      refine wl_skip (b := true) rfl rfl rfl rfl (by decide) ?_
      refine wl_skip (b := true) rfl rfl rfl rfl (by decide) ?_
      refine wl_skip (b := true) rfl rfl rfl rfl (by decide) ?_
      refine wl_skip (b := true) rfl rfl rfl rfl (by decide) ?_
      refine wl_skip (b := true) rfl rfl rfl rfl (by decide) ?_
      refine wl_q (q_pick rfl rfl rfl) rfl rfl (by decide) ?_
      refine wl_q (q_assign rfl rfl) rfl rfl (by decide) ?_
      refine wl_nil ?_
      refine fq_then ?_
      refine wc_seq ?_
      refine wc_region ?_
      refine wl_q (q_move rfl rfl) rfl rfl (by decide) ?_
      refine wl_q (q_move rfl rfl) rfl rfl (by decide) ?_
      refine wl_want (b := true) (q_ia (o1 := 2) rfl rfl rfl Tryd.underlying71 Sz3 (by decide) (by decide) rfl) rfl rfl rfl rfl (by decide) ?_
      refine wl_want (b := true) (q_load rfl rfl Mn3 (reads1 (i := 0) rfl rfl)) rfl rfl rfl rfl (by decide) ?_
      refine wl_want (b := true) (q_ia (o1 := 4) rfl rfl rfl Tryd.underlying71 Sz3 (by decide) (by decide) rfl) rfl rfl rfl rfl (by decide) ?_
      refine wl_want (b := true) (q_load rfl rfl Mn3 (reads1 (i := 0) rfl rfl)) rfl rfl rfl rfl (by decide) ?_
      refine wl_want (b := true) (q_bin rfl rfl rfl rfl) rfl rfl rfl rfl (by decide) ?_
      refine wl_eq (t := 41) rfl (congrArg (Value.int .i64) (wsum hn (by decide))) ?_
      refine wl_want (b := true) (q_bin rfl rfl rfl rfl) rfl rfl rfl rfl (by decide) ?_
      refine wl_q (q_pick rfl rfl rfl) rfl rfl (by decide) ?_
      refine wl_q (q_assign rfl rfl) rfl rfl (by decide) ?_
      refine wl_nil ?_
      refine fq_then ?_
      refine wc_ret ?_
      refine fq_ret1 rfl rfl (fun w1 H => ?_)
      refine ⟨?_, H.toBelow (by simp)⟩
      first | (rw [fits_no hlt h15']; done) | (unfold fitsB; rw [hall, h25]; first | (rw [h36]; rfl) | rfl)
    · skip
      refine wl_want (b := false) (q_ia (o1 := 0) rfl rfl rfl Tryd.underlying71 Sz3 (by decide) (by decide) rfl) rfl rfl rfl rfl (by decide) ?_
      refine wl_want (b := false) (q_load rfl rfl Mn3 (reads1 (i := 0) rfl rfl)) rfl rfl rfl rfl (by decide) ?_
      refine wl_want (b := false) (q_ia (o1 := 5) rfl rfl rfl Tryd.underlying71 Sz3 (by decide) (by decide) rfl) rfl rfl rfl rfl (by decide) ?_
      refine wl_want (b := false) (q_load rfl rfl Mn3 (reads1 (i := 0) rfl rfl)) rfl rfl rfl rfl (by decide) ?_
      refine wl_want (b := false) (q_bin rfl rfl rfl rfl) rfl rfl rfl rfl (by decide) ?_
      refine wl_eq (t := 30) rfl (congrArg (Value.int .i64) (wsum hn (by decide))) ?_
      refine wl_want (b := false) (q_move rfl rfl) rfl rfl rfl rfl (by decide) ?_
      refine wl_want (b := false) (q_len rfl rfl Tryd.underlying37) rfl rfl rfl rfl (by decide) ?_
      refine wl_want (b := false) (q_bin rfl rfl rfl rfl) rfl rfl rfl rfl (by decide) ?_
      refine wl_q (q_pick rfl rfl rfl) rfl rfl (by decide) ?_
      refine wl_q (q_assign rfl rfl) rfl rfl (by decide) ?_
      refine wl_nil ?_
      refine fq_then ?_
      refine wc_seq ?_
      refine wc_region ?_
      refine wl_q (q_move rfl rfl) rfl rfl (by decide) ?_
      refine wl_q (q_move rfl rfl) rfl rfl (by decide) ?_
      refine wl_split (t := 36) rfl (fun h36 => ?_) (fun h36 => ?_)
      · skip
        refine wl_want (b := true) (q_ia (o1 := 2) rfl rfl rfl Tryd.underlying71 Sz3 (by decide) (by decide) rfl) rfl rfl rfl rfl (by decide) ?_
        refine wl_want (b := true) (q_load rfl rfl Mn3 (reads1 (i := 0) rfl rfl)) rfl rfl rfl rfl (by decide) ?_
        refine wl_want (b := true) (q_ia (o1 := 4) rfl rfl rfl Tryd.underlying71 Sz3 (by decide) (by decide) rfl) rfl rfl rfl rfl (by decide) ?_
        refine wl_want (b := true) (q_load rfl rfl Mn3 (reads1 (i := 0) rfl rfl)) rfl rfl rfl rfl (by decide) ?_
        refine wl_want (b := true) (q_bin rfl rfl rfl rfl) rfl rfl rfl rfl (by decide) ?_
        refine wl_eq (t := 41) rfl (congrArg (Value.int .i64) (wsum hn (by decide))) ?_
        refine wl_want (b := true) (q_bin rfl rfl rfl rfl) rfl rfl rfl rfl (by decide) ?_
        refine wl_q (q_pick rfl rfl rfl) rfl rfl (by decide) ?_
        refine wl_q (q_assign rfl rfl) rfl rfl (by decide) ?_
        refine wl_nil ?_
        refine fq_then ?_
        refine wc_ret ?_
        refine fq_ret1 rfl rfl (fun w1 H => ?_)
        refine ⟨?_, H.toBelow (by simp)⟩
        first | (rw [fits_no hlt h15']; done) | (unfold fitsB; rw [hall, h25]; first | (rw [h36]; rfl) | rfl)
      · skip
        refine wl_skip (b := false) rfl rfl rfl rfl (by decide) ?_
        refine wl_skip (b := false) rfl rfl rfl rfl (by decide) ?_
        refine wl_skip (b := false) rfl rfl rfl rfl (by decide) ?_
        refine wl_skip (b := false) rfl rfl rfl rfl (by decide) ?_
        refine wl_skip (b := false) rfl rfl rfl rfl (by decide) ?_
        refine wl_skip (b := false) rfl rfl rfl rfl (by decide) ?_
        refine wl_q (q_pick rfl rfl rfl) rfl rfl (by decide) ?_
        refine wl_q (q_assign rfl rfl) rfl rfl (by decide) ?_
        refine wl_nil ?_
        refine fq_then ?_
        refine wc_ret ?_
        refine fq_ret1 rfl rfl (fun w1 H => ?_)
        refine ⟨?_, H.toBelow (by simp)⟩
        first | (rw [fits_no hlt h15']; done) | (unfold fitsB; rw [hall, h25]; first | (rw [h36]; rfl) | rfl)

theorem follows_calls (A : Option Addr) (c : Nat) (l : List Int) (A2 : Option Addr) (c2 : Nat) (l2 : List Int) (w : World) (hl : NextL w) (hr : Kd.C (Kd.int .i64) w A l.length l) (hr2 : Kd.C (Kd.int .i64) w A2 l2.length l2) : Calls Tryd.prog 28 #[.slice A l.length c, .slice A2 l2.length c2] w fun e w' => e = .returned (.bool (followsB l l2)) ∧ Below w.heap.size w w' := by
  obtain ⟨ad, R⟩ := introw_of hr
  obtain ⟨ad2, R2⟩ := introw_of hr2
  have hn := R.hn
  refine enter (w0 := w) (hp := [old w]) (env := [(0, .slice A l.length c), (1, .slice A2 l2.length c2)]) Tryd.func28 rfl 37 rfl (by simp) rfl (HeapOK.start _) ?_
  refine wc_seq ?_
  refine wc_region ?_
  refine wl_q (q_assign rfl rfl) rfl rfl (by decide) ?_
  refine wl_nil ?_
  refine fq_then ?_
  refine wc_seq ?_
  refine wc_seq ?_
  refine wc_region ?_
  refine wl_q (q_move rfl rfl) rfl rfl (by decide) ?_
  refine wl_q (q_len rfl rfl Tryd.underlying37) rfl rfl (by decide) ?_
  refine wl_q (q_move rfl rfl) rfl rfl (by decide) ?_
  refine wl_q (q_len rfl rfl Tryd.underlying37) rfl rfl (by decide) ?_
  refine wl_q (q_bin rfl rfl rfl rfl) rfl rfl (by decide) ?_
  refine wl_q (q_move rfl rfl) rfl rfl (by decide) ?_
  refine wl_split (t := 11) rfl (fun h11 => ?_) (fun h11 => ?_)
  · skip
    refine wl_skip (b := true) rfl rfl rfl rfl (by decide) ?_
    refine wl_skip (b := true) rfl rfl rfl rfl (by decide) ?_
    refine wl_skip (b := true) rfl rfl rfl rfl (by decide) ?_
    refine wl_q (q_pick rfl rfl rfl) rfl rfl (by decide) ?_
    refine wl_q (q_move rfl rfl) rfl rfl (by decide) ?_
    refine wl_skip (b := true) rfl rfl rfl rfl (by decide) ?_
    refine wl_skip (b := true) rfl rfl rfl rfl (by decide) ?_
    refine wl_skip (b := true) rfl rfl rfl rfl (by decide) ?_
    refine wl_q (q_pick rfl rfl rfl) rfl rfl (by decide) ?_
    refine wl_nil ?_
    refine fq_then ?_
    refine wc_true rfl ?_
    refine wc_seq ?_
    refine wc_region ?_
    refine wl_q (q_assign rfl rfl) rfl rfl (by decide) ?_
    refine wl_nil ?_
    refine fq_then ?_
    refine wc_ret ?_
    refine fq_then_ret ?_
    refine fq_ret1 rfl rfl (fun w1 H => ?_)
    refine ⟨?_, H.toBelow (by simp)⟩
    first | rw [fol1 h11] | rw [fol2 h16] | rw [fol3 h20] | rw [fol4 hlt h35'] | rw [fol5 hlen hf1 hf2 hno]
  · skip
    refine wl_want (b := false) (q_move rfl rfl) rfl rfl rfl rfl (by decide) ?_
    refine wl_want (b := false) (q_call rfl En27 rfl (fun w1 hw1 => fits_calls _ _ _ w1 (Kd.C_below hr (hw1.toBelow (by simp))))) rfl rfl rfl rfl (by decide) ?_
    refine wl_want (b := false) (q_not rfl rfl) rfl rfl rfl rfl (by decide) ?_
    refine wl_q (q_pick rfl rfl rfl) rfl rfl (by decide) ?_
    refine wl_q (q_move rfl rfl) rfl rfl (by decide) ?_
    refine wl_split (t := 16) rfl (fun h16 => ?_) (fun h16 => ?_)
    · skip
      refine wl_skip (b := true) rfl rfl rfl rfl (by decide) ?_
      refine wl_skip (b := true) rfl rfl rfl rfl (by decide) ?_
      refine wl_skip (b := true) rfl rfl rfl rfl (by decide) ?_
      refine wl_q (q_pick rfl rfl rfl) rfl rfl (by decide) ?_
      refine wl_nil ?_
      refine fq_then ?_
      refine wc_true rfl ?_
      refine wc_seq ?_
      refine wc_region ?_
      refine wl_q (q_assign rfl rfl) rfl rfl (by decide) ?_
      refine wl_nil ?_
      refine fq_then ?_
      refine wc_ret ?_
      refine fq_then_ret ?_
      refine fq_ret1 rfl rfl (fun w1 H => ?_)
      refine ⟨?_, H.toBelow (by simp)⟩
      first | rw [fol1 h11] | rw [fol2 h16] | rw [fol3 h20] | rw [fol4 hlt h35'] | rw [fol5 hlen hf1 hf2 hno]
    · skip
      have h20' := h16
      refine wl_want (b := false) (q_move rfl rfl) rfl rfl rfl rfl (by decide) ?_
      refine wl_want (b := false) (q_call rfl En27 rfl (fun w1 hw1 => fits_calls _ _ _ w1 (Kd.C_below hr2 (hw1.toBelow (by simp))))) rfl rfl rfl rfl (by decide) ?_
      refine wl_want (b := false) (q_not rfl rfl) rfl rfl rfl rfl (by decide) ?_
      refine wl_q (q_pick rfl rfl rfl) rfl rfl (by decide) ?_
      refine wl_nil ?_
      refine fq_then ?_
      refine wc_cond rfl (fun h20 => ?_) (fun h20 => ?_)
      · skip
        refine wc_seq ?_
        refine wc_region ?_
        refine wl_q (q_assign rfl rfl) rfl rfl (by decide) ?_
        refine wl_nil ?_
        refine fq_then ?_
        refine wc_ret ?_
        refine fq_then_ret ?_
        refine fq_ret1 rfl rfl (fun w1 H => ?_)
        refine ⟨?_, H.toBelow (by simp)⟩
        first | rw [fol1 h11] | rw [fol2 h16] | rw [fol3 h20] | rw [fol4 hlt h35'] | rw [fol5 hlen hf1 hf2 hno]
      · skip
        refine wc_skip ?_
        refine fq_then ?_
        refine wc_seq ?_
        refine wc_seq ?_
        refine wc_region ?_
        refine wl_q (q_move rfl rfl) rfl rfl (by decide) ?_
        refine wl_q (q_len rfl rfl Tryd.underlying37) rfl rfl (by decide) ?_
        refine wl_q (q_move rfl rfl) rfl rfl (by decide) ?_
        refine wl_nil ?_
        refine fq_then ?_
        refine wc_block ?_
        have hlen : l.length = l2.length := by rw [len_ne] at h11; simpa using h11
        have hf1 : fitsB l = true := by simpa using h20'
        have hf2 : fitsB l2 = true := by simpa using h20
        refine wc_loop (ι := Nat) (fun k => [(0, .slice A l.length c), (1, .slice A2 l2.length c2), (22, .int .i64 l.length), (23, .int .i64 k)]) (fun k => [old w]) (fun k => k ≤ l.length ∧ ∀ j, j < k → mayB (l.getD j 0) (l2.getD j 0) = true) (fun k => l.length - k) 0 ⟨Nat.zero_le _, fun j h => absurd h (Nat.not_lt_zero _)⟩ ⟨List.forall_mem_cons.2 ⟨rfl, List.forall_mem_cons.2 ⟨rfl, List.forall_mem_cons.2 ⟨rfl, List.forall_mem_cons.2 ⟨rfl, fun _ h => (by cases h)⟩⟩⟩⟩, List.Sublist.refl _⟩ ?_
        rintro k ⟨hkn, hno⟩
        refine wc_seq ?_
        refine wc_region ?_
        refine wl_q (q_bin rfl rfl rfl rfl) rfl rfl (by decide) ?_
        refine wl_nil ?_
        refine fq_then ?_
        refine wc_seq ?_
        refine wc_cond rfl (fun h24 => ?_) (fun h24 => ?_)
        · skip
          have hlt : k < l.length := by simpa using h24
          refine wc_skip ?_
          refine fq_then ?_
          refine wc_seq ?_
          refine wc_block ?_
          refine wc_seq ?_
          refine wc_region ?_
          refine wl_q (q_move rfl rfl) rfl rfl (by decide) ?_
          refine wl_q (q_assign rfl rfl) rfl rfl (by decide) ?_
          refine wl_nil ?_
          refine fq_then ?_
          refine wc_seq ?_
          refine wc_draw 10 Fol (by kernel_rfl) (Chain.yield (q_move rfl rfl) rfl rfl (Chain.yield (q_move rfl rfl) rfl rfl (Chain.yield (q_indexO rfl rfl (R.hA (by omega)) rfl Tryd.underlying37 Sz3 (by omega) (by omega)) rfl rfl (Chain.yield (q_load rfl rfl Mn3 (R.reads (by simp) hlt)) rfl rfl (Chain.yield (q_move rfl rfl) rfl rfl (Chain.yield (q_move rfl rfl) rfl rfl (Chain.yield (q_indexO rfl rfl (R2.hA (by omega)) rfl Tryd.underlying37 Sz3 (by omega) (by omega)) rfl rfl (Chain.yield (q_load rfl rfl Mn3 (R2.reads (by simp) (by omega))) rfl rfl (Chain.yield (q_call rfl En39 rfl (fun w1 hw1 => may_calls _ _ w1 (hl.below (hw1.toBelow (by simp))))) rfl rfl (Chain.yield (q_not rfl rfl) rfl rfl (Chain.nil _))))))))))) ?_
          refine wl_nil ?_
          refine fq_then ?_
          refine wc_cond rfl (fun h35 => ?_) (fun h35 => ?_)
          · skip
            have h35' : mayB (l.getD k 0) (l2.getD k 0) = false := by simpa using h35
            refine wc_seq ?_
            refine wc_region ?_
            refine wl_q (q_assign rfl rfl) rfl rfl (by decide) ?_
            refine wl_nil ?_
            refine fq_then ?_
            refine wc_ret ?_
            refine fq_block_ret ?_
            refine fq_then_ret ?_
            refine fq_then_ret ?_
            refine fq_block_ret ?_
            refine fq_then_ret ?_
            refine fq_ret1 rfl rfl (fun w1 H => ?_)
            refine ⟨?_, H.toBelow (by simp)⟩
            first | rw [fol1 h11] | rw [fol2 h16] | rw [fol3 h20] | rw [fol4 hlt h35'] | rw [fol5 hlen hf1 hf2 hno]
          · skip
            have h35' : mayB (l.getD k 0) (l2.getD k 0) = true := by simpa using h35
            refine wc_skip ?_
            refine fq_block ?_
            refine fq_then ?_
            refine wc_region ?_
            refine wl_q (q_bin rfl rfl rfl rfl) rfl rfl (by decide) ?_
            refine wl_q (q_move rfl rfl) rfl rfl (by decide) ?_
            refine wl_nil ?_
            refine fq_next (k + 1) ⟨hlt, fun j hj => (Nat.lt_succ_iff_lt_or_eq.1 hj).elim (hno j) (fun e => e ▸ h35')⟩ (by omega) ⟨List.forall_mem_cons.2 ⟨rfl, List.forall_mem_cons.2 ⟨rfl, List.forall_mem_cons.2 ⟨rfl, List.forall_mem_cons.2 ⟨(congrArg (fun z => some (Value.int .i64 z)) (wk1 hlt hn)), fun _ h => (by cases h)⟩⟩⟩⟩, List.Sublist.refl _⟩
        · skip
          obtain rfl : k = l.length := (by have : ¬ k < l.length := (by simpa using h24); omega)
          refine wc_exit ?_
          refine fq_then_exit ?_
          refine fq_then_exit ?_
          refine fq_block_hit ?_
          refine fq_then ?_
          refine wc_seq ?_
          refine wc_region ?_
          refine wl_q (q_assign rfl rfl) rfl rfl (by decide) ?_
          refine wl_nil ?_
          refine fq_then ?_
          refine wc_ret ?_
          refine fq_ret1 rfl rfl (fun w1 H => ?_)
          refine ⟨?_, H.toBelow (by simp)⟩
          first | rw [fol1 h11] | rw [fol2 h16] | rw [fol3 h20] | rw [fol4 hlt h35'] | rw [fol5 hlen hf1 hf2 hno]

end Go.Proofs.YthpfhglncbkinaaDoor.SF
