/- Walks (no statement stands here). -/
import Derived.Test.YthpfhglncbkinaaDoorSw4
import Derived.Test.YthpfhglncbkinaaDoorPAllx0
import Derived.Test.YthpfhglncbkinaaDoorWMore
import Derived.Test.YthpfhglncbkinaaDoorWLast
namespace Go.Proofs.YthpfhglncbkinaaDoor.SF
open Go.RowKit Go.Sx Go.Proofs.YthpfhglncbkinaaDoorW.PrintWords Go.Proofs.YthpfhglncbkinaaDoorW.PrintLast Go.Proofs.YthpfhglncbkinaaDoorW.PrintMore
set_option linter.unusedVariables false
set_option linter.unusedSimpArgs false
set_option maxRecDepth 100000
/-- What is read of a row of rows. -/
structure RowsOK (w : World) (A : Option Addr) (n : Nat) (ad : Addr) (rows : Nat → List Int) (PA : Nat → Option Addr) (PC : Nat → Nat) : Prop where
  hA : 0 < n → A = some ad
  hn : n ≤ 9223372036854775807
  row : ∀ j, j < n → Kd.C (Kd.int .i64) w (PA j) (rows j).length (rows j)
  cell : ∀ j, j < n → w.cell? (ad.add j) = some (.slice (PA j) (rows j).length (PC j))
theorem RowsOK.reads {w : World} {A : Option Addr} {n : Nat} {ad : Addr} {rows : Nat → List Int} {PA : Nat → Option Addr} {PC : Nat → Nat} (h : RowsOK w A n ad rows PA PC) {hp : List Sx.Item} (hm : old w ∈ hp) {i : Int} {k : Nat} (hi : i = k) (hk : k < n) : Reads w hp (ad.add (i.toNat * 1)) [.slice (PA k) (rows k).length (PC k)] := by
  subst hi
  refine reads_old hm (fun j u hu => ?_)
  cases j with
  | zero =>
    cases hu
    rw [add_zero, Int.toNat_natCast, Nat.mul_one]
    exact h.cell k hk
  | succ j => simp at hu
/-- Does a row not follow the one ahead? -/
def badAt (rows : Nat → List Int) (k : Nat) : Bool := if k = 0 then !fitsB (rows 0) else !followsB (rows (k - 1)) (rows k)
def accN (rows : Nat → List Int) (n : Nat) : Nat := match fi (badAt rows) n 0 with | some j => j | none => n
theorem accN_hit {rows : Nat → List Int} {k n : Nat} (hk : badAt rows k = true) (hn : k < n) (hf : ∀ j, j < k → badAt rows j = false) : accN rows n = k := by
  have := fi_hit (badAt rows) k hk k 0 n (by omega) hn hf
  simp [accN, this]
theorem accN_none {rows : Nat → List Int} {n : Nat} (hf : ∀ j, j < n → badAt rows j = false) : accN rows n = n := by
  have := fi_none (badAt rows) n 0 (fun j hj => hf j (by omega))
  simp [accN, this]
theorem bad0 {rows : Nat → List Int} {k : Nat} (h0 : ((k : Int) == 0) = true) : badAt rows k = !fitsB (rows k) := by
  have : k = 0 := by simpa using h0
  subst this; rfl
theorem badS {rows : Nat → List Int} {k : Nat} (h0 : decide (0 < (k : Int)) = true) : badAt rows k = !followsB (rows (k - 1)) (rows k) := by
  have : 0 < (k : Int) := of_decide_eq_true h0
  unfold badAt
  rw [if_neg (by omega)]
theorem wk0 {k : Nat} (h : decide (0 < (k : Int)) = true) (hn : k ≤ 9223372036854775807) : IntKind.i64.wrap ((k : Int) - 1) = ((k - 1 : Nat) : Int) := by
  have : 0 < (k : Int) := of_decide_eq_true h
  rw [i64_w]; unfold wrap64; omega

theorem accept_calls (A : Option Addr) (n c : Nat) (ad : Addr) (rows : Nat → List Int) (PA : Nat → Option Addr) (PC : Nat → Nat) (w : World) (hl : NextL w) (R : RowsOK w A n ad rows PA PC) : Calls Tryd.prog 23 #[.slice A n c] w fun e w' => e = .returned (.int .i64 (accN rows n)) ∧ Below w.heap.size w w' := by
  have hn := R.hn
  refine enter (w0 := w) (hp := [old w]) (env := [(0, .slice A n c)]) Tryd.func23 rfl 38 rfl (by simp) rfl (HeapOK.start _) ?_
  refine wc_seq ?_
  refine wc_region ?_
  refine wl_q (q_assign rfl rfl) rfl rfl (by decide) ?_
  refine wl_nil ?_
  refine fq_then ?_
  refine wc_scope ?_
  refine wc_seq ?_
  refine wc_region ?_
  refine wl_q (q_assign rfl rfl) rfl rfl (by decide) ?_
  refine wl_nil ?_
  refine fq_then ?_
  refine wc_seq ?_
  refine wc_label ?_
  refine fq_then ?_
  refine wc_seq ?_
  refine wc_seq ?_
  refine wc_region ?_
  refine wl_q (q_move rfl rfl) rfl rfl (by decide) ?_
  refine wl_q (q_len rfl rfl Tryd.underlying50) rfl rfl (by decide) ?_
  refine wl_q (q_move rfl rfl) rfl rfl (by decide) ?_
  refine wl_nil ?_
  refine fq_then ?_
  refine wc_block ?_
  refine wc_loop (ι := Nat) (fun k => [(0, .slice A n c), (3, .int .i64 k), (6, .slice A n c), (7, .int .i64 n), (8, .int .i64 k)]) (fun k => [old w]) (fun k => k ≤ n ∧ ∀ j, j < k → badAt rows j = false) (fun k => n - k) 0 ⟨Nat.zero_le _, fun j h => absurd h (Nat.not_lt_zero _)⟩ ⟨List.forall_mem_cons.2 ⟨rfl, List.forall_mem_cons.2 ⟨rfl, List.forall_mem_cons.2 ⟨rfl, List.forall_mem_cons.2 ⟨rfl, List.forall_mem_cons.2 ⟨rfl, fun _ h => (by cases h)⟩⟩⟩⟩⟩, List.Sublist.refl _⟩ ?_
  rintro k ⟨hkn, hno⟩
  refine wc_seq ?_
  refine wc_region ?_
  refine wl_q (q_bin rfl rfl rfl rfl) rfl rfl (by decide) ?_
  refine wl_nil ?_
  refine fq_then ?_
  refine wc_seq ?_
  refine wc_cond rfl (fun h9 => ?_) (fun h9 => ?_)
  · skip
    have hlt : k < n := by simpa using h9
    refine wc_skip ?_
    refine fq_then ?_
    refine wc_seq ?_
    refine wc_block ?_
    refine wc_seq ?_
    refine wc_region ?_
    refine wl_q (q_move rfl rfl) rfl rfl (by decide) ?_
    refine wl_q (q_indexO rfl rfl (R.hA (by omega)) rfl Tryd.underlying50 Sz37 (by omega) (by omega)) rfl rfl (by decide) ?_
    refine wl_q (q_load rfl rfl Mn37 (R.reads (by simp) rfl hlt)) rfl rfl (by decide) ?_
    refine wl_q (q_assign rfl rfl) rfl rfl (by decide) ?_
    refine wl_q (q_assign rfl rfl) rfl rfl (by decide) ?_
    refine wl_nil ?_
    refine fq_then ?_
    refine wc_seq ?_
    refine wc_block ?_
    refine wc_seq ?_
    refine wc_region ?_
    refine wl_q (q_move rfl rfl) rfl rfl (by decide) ?_
    refine wl_q (q_bin rfl rfl rfl rfl) rfl rfl (by decide) ?_
    refine wl_q (q_move rfl rfl) rfl rfl (by decide) ?_
    refine wl_split (t := 16) rfl (fun h16 => ?_) (fun h16 => ?_)
    · skip
      refine wl_want (b := true) (q_move rfl rfl) rfl rfl rfl rfl (by decide) ?_
      refine wl_want (b := true) (q_call rfl En27 rfl (fun w1 hw1 => fits_calls _ _ _ w1 (Kd.C_below (R.row k hlt) (hw1.toBelow (by simp))))) rfl rfl rfl rfl (by decide) ?_
      refine wl_want (b := true) (q_not rfl rfl) rfl rfl rfl rfl (by decide) ?_
      refine wl_q (q_pick rfl rfl rfl) rfl rfl (by decide) ?_
      refine wl_q (q_assign rfl rfl) rfl rfl (by decide) ?_
      refine wl_nil ?_
      refine fq_then ?_
      refine wc_cond rfl (fun h13 => ?_) (fun h13 => ?_)
      · skip
        refine wc_exit ?_
        refine fq_block_miss rfl ?_
        refine fq_then_exit ?_
        refine fq_block_miss rfl ?_
        refine fq_then_exit ?_
        refine fq_then_exit ?_
        refine fq_block_hit ?_
        refine fq_then ?_
        refine wc_seq ?_
        refine wc_region ?_
        refine wl_q (q_move rfl rfl) rfl rfl (by decide) ?_
        refine wl_q (q_assign rfl rfl) rfl rfl (by decide) ?_
        refine wl_nil ?_
        refine fq_then ?_
        refine wc_ret ?_
        refine fq_scope (.inr rfl) ?_
        refine fq_ret1 rfl rfl (fun w1 H => ?_)
        refine ⟨?_, H.toBelow (by simp)⟩
        first | (rw [accN_hit (by first | (rw [bad0 h16]; exact h13) | (rw [badS h24]; exact h21)) hlt hno]) | (rw [accN_none hno])
      · skip
        refine wc_seq ?_
        refine wc_region ?_
        refine wl_q (q_move rfl rfl) rfl rfl (by decide) ?_
        refine wl_q (q_bin rfl rfl rfl rfl) rfl rfl (by decide) ?_
        refine wl_q (q_move rfl rfl) rfl rfl (by decide) ?_
        refine wl_split (t := 24) rfl (fun h24 => ?_) (fun h24 => ?_)
        · skip
          refine wl_want (b := true) (q_move rfl rfl) rfl rfl rfl rfl (by decide) ?_
          refine wl_want (b := true) (q_move rfl rfl) rfl rfl rfl rfl (by decide) ?_
          refine wl_want (b := true) (q_bin rfl rfl rfl rfl) rfl rfl rfl rfl (by decide) ?_
          refine wl_eq (t := 27) rfl (congrArg (Value.int .i64) (wk0 h24 (by omega))) ?_
          refine wl_want (b := true) (q_indexO rfl rfl (R.hA (by omega)) rfl Tryd.underlying50 Sz37 (by omega) (by omega)) rfl rfl rfl rfl (by decide) ?_
          refine wl_want (b := true) (q_load rfl rfl Mn37 (R.reads (by simp) rfl (by omega))) rfl rfl rfl rfl (by decide) ?_
          refine wl_want (b := true) (q_move rfl rfl) rfl rfl rfl rfl (by decide) ?_
          refine wl_want (b := true) (q_call rfl En28 rfl (fun w1 hw1 => follows_calls _ _ _ _ _ _ w1 (hl.below (hw1.toBelow (by simp))) (Kd.C_below (R.row (k - 1) (by omega)) (hw1.toBelow (by simp))) (Kd.C_below (R.row k hlt) (hw1.toBelow (by simp))))) rfl rfl rfl rfl (by decide) ?_
          refine wl_want (b := true) (q_not rfl rfl) rfl rfl rfl rfl (by decide) ?_
          refine wl_q (q_pick rfl rfl rfl) rfl rfl (by decide) ?_
          refine wl_q (q_assign rfl rfl) rfl rfl (by decide) ?_
          refine wl_nil ?_
          refine fq_then ?_
          refine wc_cond rfl (fun h21 => ?_) (fun h21 => ?_)
          · skip
            refine wc_exit ?_
            refine fq_block_miss rfl ?_
            refine fq_then_exit ?_
            refine fq_block_miss rfl ?_
            refine fq_then_exit ?_
            refine fq_then_exit ?_
            refine fq_block_hit ?_
            refine fq_then ?_
            refine wc_seq ?_
            refine wc_region ?_
            refine wl_q (q_move rfl rfl) rfl rfl (by decide) ?_
            refine wl_q (q_assign rfl rfl) rfl rfl (by decide) ?_
            refine wl_nil ?_
            refine fq_then ?_
            refine wc_ret ?_
            refine fq_scope (.inr rfl) ?_
            refine fq_ret1 rfl rfl (fun w1 H => ?_)
            refine ⟨?_, H.toBelow (by simp)⟩
            first | (rw [accN_hit (by first | (rw [bad0 h16]; exact h13) | (rw [badS h24]; exact h21)) hlt hno]) | (rw [accN_none hno])
          · skip
            refine wc_skip ?_
            refine fq_block ?_
            refine fq_then ?_
            refine wc_region ?_
            refine wl_q (q_move rfl rfl) rfl rfl (by decide) ?_
            refine wl_q (q_bin rfl rfl rfl rfl) rfl rfl (by decide) ?_
            refine wl_q (q_assign rfl rfl) rfl rfl (by decide) ?_
            refine wl_nil ?_
            refine fq_block ?_
            refine fq_then ?_
            refine wc_region ?_
            refine wl_q (q_bin rfl rfl rfl rfl) rfl rfl (by decide) ?_
            refine wl_q (q_move rfl rfl) rfl rfl (by decide) ?_
            refine wl_nil ?_
            have hgood : badAt rows k = false := by first | (rw [bad0 h16]; simpa using h13) | (rw [badS h24]; simpa using h21) | (exfalso; have h1 : ¬ (k : Int) = 0 := (by simpa using h16); have h2 := of_decide_eq_false h24; omega)
            refine fq_next (k + 1) ⟨hlt, fun j hj => (Nat.lt_succ_iff_lt_or_eq.1 hj).elim (hno j) (fun e => e ▸ hgood)⟩ (by omega) ⟨List.forall_mem_cons.2 ⟨rfl, List.forall_mem_cons.2 ⟨(congrArg (fun z => some (Value.int .i64 z)) (wk1 hlt hn)), List.forall_mem_cons.2 ⟨rfl, List.forall_mem_cons.2 ⟨rfl, List.forall_mem_cons.2 ⟨(congrArg (fun z => some (Value.int .i64 z)) (wk1 hlt hn)), fun _ h => (by cases h)⟩⟩⟩⟩⟩, List.Sublist.refl _⟩
        · skip
          refine wl_skip (b := false) rfl rfl rfl rfl (by decide) ?_
          refine wl_skip (b := false) rfl rfl rfl rfl (by decide) ?_
          refine wl_skip (b := false) rfl rfl rfl rfl (by decide) ?_
          refine wl_skip (b := false) rfl rfl rfl rfl (by decide) ?_
          refine wl_skip (b := false) rfl rfl rfl rfl (by decide) ?_
          refine wl_skip (b := false) rfl rfl rfl rfl (by decide) ?_
          refine wl_skip (b := false) rfl rfl rfl rfl (by decide) ?_
          refine wl_skip (b := false) rfl rfl rfl rfl (by decide) ?_
          refine wl_q (q_pick rfl rfl rfl) rfl rfl (by decide) ?_
          refine wl_q (q_assign rfl rfl) rfl rfl (by decide) ?_
          refine wl_nil ?_
          refine fq_then ?_
          refine wc_false rfl ?_
          refine wc_skip ?_
          refine fq_block ?_
          refine fq_then ?_
          refine wc_region ?_
          refine wl_q (q_move rfl rfl) rfl rfl (by decide) ?_
          refine wl_q (q_bin rfl rfl rfl rfl) rfl rfl (by decide) ?_
          refine wl_q (q_assign rfl rfl) rfl rfl (by decide) ?_
          refine wl_nil ?_
          refine fq_block ?_
          refine fq_then ?_
          refine wc_region ?_
          refine wl_q (q_bin rfl rfl rfl rfl) rfl rfl (by decide) ?_
          refine wl_q (q_move rfl rfl) rfl rfl (by decide) ?_
          refine wl_nil ?_
          have hgood : badAt rows k = false := by first | (rw [bad0 h16]; simpa using h13) | (rw [badS h24]; simpa using h21) | (exfalso; have h1 : ¬ (k : Int) = 0 := (by simpa using h16); have h2 := of_decide_eq_false h24; omega)
          refine fq_next (k + 1) ⟨hlt, fun j hj => (Nat.lt_succ_iff_lt_or_eq.1 hj).elim (hno j) (fun e => e ▸ hgood)⟩ (by omega) ⟨List.forall_mem_cons.2 ⟨rfl, List.forall_mem_cons.2 ⟨(congrArg (fun z => some (Value.int .i64 z)) (wk1 hlt hn)), List.forall_mem_cons.2 ⟨rfl, List.forall_mem_cons.2 ⟨rfl, List.forall_mem_cons.2 ⟨(congrArg (fun z => some (Value.int .i64 z)) (wk1 hlt hn)), fun _ h => (by cases h)⟩⟩⟩⟩⟩, List.Sublist.refl _⟩
    · skip
      refine wl_skip (b := false) rfl rfl rfl rfl (by decide) ?_
      refine wl_skip (b := false) rfl rfl rfl rfl (by decide) ?_
      refine wl_skip (b := false) rfl rfl rfl rfl (by decide) ?_
      refine wl_q (q_pick rfl rfl rfl) rfl rfl (by decide) ?_
      refine wl_q (q_assign rfl rfl) rfl rfl (by decide) ?_
      refine wl_nil ?_
      refine fq_then ?_
      refine wc_false rfl ?_
      refine wc_seq ?_
      refine wc_region ?_
      refine wl_q (q_move rfl rfl) rfl rfl (by decide) ?_
      refine wl_q (q_bin rfl rfl rfl rfl) rfl rfl (by decide) ?_
      refine wl_q (q_move rfl rfl) rfl rfl (by decide) ?_
      refine wl_split (t := 24) rfl (fun h24 => ?_) (fun h24 => ?_)
      · skip
        refine wl_want (b := true) (q_move rfl rfl) rfl rfl rfl rfl (by decide) ?_
        refine wl_want (b := true) (q_move rfl rfl) rfl rfl rfl rfl (by decide) ?_
        refine wl_want (b := true) (q_bin rfl rfl rfl rfl) rfl rfl rfl rfl (by decide) ?_
        refine wl_eq (t := 27) rfl (congrArg (Value.int .i64) (wk0 h24 (by omega))) ?_
        refine wl_want (b := true) (q_indexO rfl rfl (R.hA (by omega)) rfl Tryd.underlying50 Sz37 (by omega) (by omega)) rfl rfl rfl rfl (by decide) ?_
        refine wl_want (b := true) (q_load rfl rfl Mn37 (R.reads (by simp) rfl (by omega))) rfl rfl rfl rfl (by decide) ?_
        refine wl_want (b := true) (q_move rfl rfl) rfl rfl rfl rfl (by decide) ?_
        refine wl_want (b := true) (q_call rfl En28 rfl (fun w1 hw1 => follows_calls _ _ _ _ _ _ w1 (hl.below (hw1.toBelow (by simp))) (Kd.C_below (R.row (k - 1) (by omega)) (hw1.toBelow (by simp))) (Kd.C_below (R.row k hlt) (hw1.toBelow (by simp))))) rfl rfl rfl rfl (by decide) ?_
        refine wl_want (b := true) (q_not rfl rfl) rfl rfl rfl rfl (by decide) ?_
        refine wl_q (q_pick rfl rfl rfl) rfl rfl (by decide) ?_
        refine wl_q (q_assign rfl rfl) rfl rfl (by decide) ?_
        refine wl_nil ?_
        refine fq_then ?_
        refine wc_cond rfl (fun h21 => ?_) (fun h21 => ?_)
        · skip
          refine wc_exit ?_
          refine fq_block_miss rfl ?_
          refine fq_then_exit ?_
          refine fq_block_miss rfl ?_
          refine fq_then_exit ?_
          refine fq_then_exit ?_
          refine fq_block_hit ?_
          refine fq_then ?_
          refine wc_seq ?_
          refine wc_region ?_
          refine wl_q (q_move rfl rfl) rfl rfl (by decide) ?_
          refine wl_q (q_assign rfl rfl) rfl rfl (by decide) ?_
          refine wl_nil ?_
          refine fq_then ?_
          refine wc_ret ?_
          refine fq_scope (.inr rfl) ?_
          refine fq_ret1 rfl rfl (fun w1 H => ?_)
          refine ⟨?_, H.toBelow (by simp)⟩
          first | (rw [accN_hit (by first | (rw [bad0 h16]; exact h13) | (rw [badS h24]; exact h21)) hlt hno]) | (rw [accN_none hno])
        · skip
          refine wc_skip ?_
          refine fq_block ?_
          refine fq_then ?_
          refine wc_region ?_
          refine wl_q (q_move rfl rfl) rfl rfl (by decide) ?_
          refine wl_q (q_bin rfl rfl rfl rfl) rfl rfl (by decide) ?_
          refine wl_q (q_assign rfl rfl) rfl rfl (by decide) ?_
          refine wl_nil ?_
          refine fq_block ?_
          refine fq_then ?_
          refine wc_region ?_
          refine wl_q (q_bin rfl rfl rfl rfl) rfl rfl (by decide) ?_
          refine wl_q (q_move rfl rfl) rfl rfl (by decide) ?_
          refine wl_nil ?_
          have hgood : badAt rows k = false := by first | (rw [bad0 h16]; simpa using h13) | (rw [badS h24]; simpa using h21) | (exfalso; have h1 : ¬ (k : Int) = 0 := (by simpa using h16); have h2 := of_decide_eq_false h24; omega)
          refine fq_next (k + 1) ⟨hlt, fun j hj => (Nat.lt_succ_iff_lt_or_eq.1 hj).elim (hno j) (fun e => e ▸ hgood)⟩ (by omega) ⟨List.forall_mem_cons.2 ⟨rfl, List.forall_mem_cons.2 ⟨(congrArg (fun z => some (Value.int .i64 z)) (wk1 hlt hn)), List.forall_mem_cons.2 ⟨rfl, List.forall_mem_cons.2 ⟨rfl, List.forall_mem_cons.2 ⟨(congrArg (fun z => some (Value.int .i64 z)) (wk1 hlt hn)), fun _ h => (by cases h)⟩⟩⟩⟩⟩, List.Sublist.refl _⟩
      · skip
        refine wl_skip (b := false) rfl rfl rfl rfl (by decide) ?_
        refine wl_skip (b := false) rfl rfl rfl rfl (by decide) ?_
        refine wl_skip (b := false) rfl rfl rfl rfl (by decide) ?_
        refine wl_skip (b := false) rfl rfl rfl rfl (by decide) ?_
        refine wl_skip (b := false) rfl rfl rfl rfl (by decide) ?_
        refine wl_skip (b := false) rfl rfl rfl rfl (by decide) ?_
        refine wl_skip (b := false) rfl rfl rfl rfl (by decide) ?_
        refine wl_skip (b := false) rfl rfl rfl rfl (by decide) ?_
        refine wl_q (q_pick rfl rfl rfl) rfl rfl (by decide) ?_
        refine wl_q (q_assign rfl rfl) rfl rfl (by decide) ?_
        refine wl_nil ?_
        refine fq_then ?_
        refine wc_false rfl ?_
        refine wc_skip ?_
        refine fq_block ?_
        refine fq_then ?_
        refine wc_region ?_
        refine wl_q (q_move rfl rfl) rfl rfl (by decide) ?_
        refine wl_q (q_bin rfl rfl rfl rfl) rfl rfl (by decide) ?_
        refine wl_q (q_assign rfl rfl) rfl rfl (by decide) ?_
        refine wl_nil ?_
        refine fq_block ?_
        refine fq_then ?_
        refine wc_region ?_
        refine wl_q (q_bin rfl rfl rfl rfl) rfl rfl (by decide) ?_
        refine wl_q (q_move rfl rfl) rfl rfl (by decide) ?_
        refine wl_nil ?_
        have hgood : badAt rows k = false := by first | (rw [bad0 h16]; simpa using h13) | (rw [badS h24]; simpa using h21) | (exfalso; have h1 : ¬ (k : Int) = 0 := (by simpa using h16); have h2 := of_decide_eq_false h24; omega)
        refine fq_next (k + 1) ⟨hlt, fun j hj => (Nat.lt_succ_iff_lt_or_eq.1 hj).elim (hno j) (fun e => e ▸ hgood)⟩ (by omega) ⟨List.forall_mem_cons.2 ⟨rfl, List.forall_mem_cons.2 ⟨(congrArg (fun z => some (Value.int .i64 z)) (wk1 hlt hn)), List.forall_mem_cons.2 ⟨rfl, List.forall_mem_cons.2 ⟨rfl, List.forall_mem_cons.2 ⟨(congrArg (fun z => some (Value.int .i64 z)) (wk1 hlt hn)), fun _ h => (by cases h)⟩⟩⟩⟩⟩, List.Sublist.refl _⟩
  · skip
    obtain rfl : k = n := (by have : ¬ k < n := (by simpa using h9); omega)
    refine wc_exit ?_
    refine fq_then_exit ?_
    refine fq_then_exit ?_
    refine fq_block_hit ?_
    refine fq_then ?_
    refine wc_seq ?_
    refine wc_region ?_
    refine wl_q (q_move rfl rfl) rfl rfl (by decide) ?_
    refine wl_q (q_assign rfl rfl) rfl rfl (by decide) ?_
    refine wl_nil ?_
    refine fq_then ?_
    refine wc_ret ?_
    refine fq_scope (.inr rfl) ?_
    refine fq_ret1 rfl rfl (fun w1 H => ?_)
    refine ⟨?_, H.toBelow (by simp)⟩
    first | (rw [accN_hit (by first | (rw [bad0 h16]; exact h13) | (rw [badS h24]; exact h21)) hlt hno]) | (rw [accN_none hno])

def rowCells (rows : Nat → List Int) (PA : Nat → Option Addr) (PC : Nat → Nat) : Nat → List Value
  | 0 => []
  | k + 1 => rowCells rows PA PC k ++ [.slice (PA k) (rows k).length (PC k)]
theorem rowCells_len (rows : Nat → List Int) (PA : Nat → Option Addr) (PC : Nat → Nat) : ∀ k, (rowCells rows PA PC k).length = k
  | 0 => rfl
  | k + 1 => by rw [rowCells, List.length_append, rowCells_len rows PA PC k]; rfl
theorem rowCells_get (rows : Nat → List Int) (PA : Nat → Option Addr) (PC : Nat → Nat) : ∀ k j, j < k → (rowCells rows PA PC k)[j]? = some (.slice (PA j) (rows j).length (PC j))
  | 0, j, h => by omega
  | k + 1, j, h => by
    rw [rowCells]
    by_cases hj : j < k
    · rw [List.getElem?_append_left (by rw [rowCells_len]; exact hj)]
      exact rowCells_get rows PA PC k j hj
    · obtain rfl : j = k := by omega
      rw [List.getElem?_append_right (by rw [rowCells_len]; exact Nat.le_refl _), rowCells_len, Nat.sub_self]
      rfl
theorem rowsOK_own {w0 w : World} {A : Option Addr} {n c : Nat} {rows : Nat → List Int} {PA : Nat → Option Addr} {PC : Nat → Nat} {hp : List Sx.Item} (hh : HeapOK w0 hp w) (hm : old w0 ∈ hp) (ho : w.ownsRow 0 37 1 (.slice A n c) n (rowCells rows PA PC n)) (hn : n ≤ 9223372036854775807) (hr : ∀ j, j < n → Kd.C (Kd.int .i64) w0 (PA j) (rows j).length (rows j)) : ∃ ad, RowsOK w A n ad rows PA PC := by
  obtain ⟨ad, hA, hc⟩ := own_cell ho (by decide)
  exact ⟨ad, hA, hn, fun j hj => Kd.C_below (hr j hj) (hh.toBelow hm), fun j hj => hc j _ (rowCells_get rows PA PC n j hj)⟩
theorem acc_calls {w0 w : World} {A : Option Addr} {n c : Nat} {rows : Nat → List Int} {PA : Nat → Option Addr} {PC : Nat → Nat} {hp : List Sx.Item} (hh : HeapOK w0 hp w) (hm : old w0 ∈ hp) (hl : NextL w0) (ho : w.ownsRow 0 37 1 (.slice A n c) n (rowCells rows PA PC n)) (hn : n ≤ 9223372036854775807) (hr : ∀ j, j < n → Kd.C (Kd.int .i64) w0 (PA j) (rows j).length (rows j)) :
    Calls Tryd.prog 23 #[.slice A n c] w fun e w' => e = .returned (.int .i64 (accN rows n)) ∧ Below w.heap.size w w' := by
  obtain ⟨ad, R⟩ := rowsOK_own hh hm ho hn hr
  exact accept_calls A n c ad rows PA PC w (hl.below (hh.toBelow hm)) R
def brkI (rows : Nat → List Int) (n : Nat) : Int := if (accN rows n : Int) < (n : Int) then (accN rows n : Int) else -1

theorem breaks_calls (A : Option Addr) (c : Nat) (l : List PAll.S40) (w : World) (ad : Addr) (PA : Nat → Option Addr) (PC : Nat → Nat) (F : Facts w A l ad PA PC) (hsz : l.length * 24 ≤ 140737488355328) (hl : NextL w) : Calls Tryd.prog 12 #[.slice A l.length c] w fun e w' => e = .returned (.int .i64 (brkI (fun j => (l.getD j PAll.z40).f3) l.length)) ∧ Below w.heap.size w w' := by
  have hn := F.hn
  refine enter (w0 := w) (hp := [old w]) (env := [(0, .slice A l.length c)]) Tryd.func12 rfl 26 rfl (by simp) rfl (HeapOK.start _) ?_
  refine wc_seq ?_
  refine wc_region ?_
  refine wl_q (q_assign rfl rfl) rfl rfl (by decide) ?_
  refine wl_nil ?_
  refine fq_then ?_
  refine wc_seq ?_
  refine wc_region ?_
  refine wl_q (q_assign rfl rfl) rfl rfl (by decide) ?_
  refine wl_nil ?_
  refine fq_then ?_
  refine wc_seq ?_
  refine wc_seq ?_
  refine wc_region ?_
  refine wl_q (q_move rfl rfl) rfl rfl (by decide) ?_
  refine wl_q (q_len rfl rfl Tryd.underlying22) rfl rfl (by decide) ?_
  refine wl_q (q_move rfl rfl) rfl rfl (by decide) ?_
  refine wl_nil ?_
  refine fq_then ?_
  refine wc_block ?_
  refine wc_own (E := 37) (sz := 1) ?_
  refine wc_loop (ι := (Nat × Value)) (fun i => [(0, .slice A l.length c), (3, i.2), (7, .slice A l.length c), (8, .int .i64 l.length), (9, .int .i64 i.1)]) (fun i => [.own 0 37 1 i.2 i.1 (rowCells (fun j => (l.getD j PAll.z40).f3) PA PC i.1), old w]) (fun i => i.1 ≤ l.length) (fun i => l.length - i.1) (0, .slice none 0 0) (Nat.zero_le _) ⟨List.forall_mem_cons.2 ⟨rfl, List.forall_mem_cons.2 ⟨rfl, List.forall_mem_cons.2 ⟨rfl, List.forall_mem_cons.2 ⟨rfl, List.forall_mem_cons.2 ⟨rfl, fun _ h => (by cases h)⟩⟩⟩⟩⟩, List.Sublist.refl _⟩ ?_
  rintro ⟨k, v⟩ hkn
  simp only at hkn
  refine wc_seq ?_
  refine wc_region ?_
  refine wl_q (q_bin rfl rfl rfl rfl) rfl rfl (by decide) ?_
  refine wl_nil ?_
  refine fq_then ?_
  refine wc_seq ?_
  refine wc_cond rfl (fun h10 => ?_) (fun h10 => ?_)
  · skip
    have hlt : k < l.length := by simpa using h10
    refine wc_skip ?_
    refine fq_then ?_
    refine wc_seq ?_
    refine wc_block ?_
    refine wc_seq ?_
    refine wc_region ?_
    refine wl_q (q_indexO rfl rfl (F.hA (by omega)) rfl Tryd.underlying22 Sz40 (by omega) (by omega)) rfl rfl (by decide) ?_
    refine wl_q (q_loadA (cs := cells5 (l.getD k PAll.z40) (PA k) (PC k)) rfl rfl Mn40 Sz40 rfl (reads_old (by simp) (F.cell k hlt))) rfl rfl (by decide) ?_
    refine wl_alloc rfl rfl rfl (by decide) Zr40 (fun b1 => ?_)
    refine wl_store (i := 0) rfl rfl rfl rfl rfl rfl Sz40 rfl rfl (by simp) (by simp [Value.oneCell', cells5]) (by simp only [List.take_succ_cons, List.take_zero, List.take_nil, List.drop_succ_cons, List.drop_zero, List.drop_nil, List.nil_append, List.cons_append, List.append_nil, List.length_cons, List.length_nil, Nat.reduceAdd, Nat.zero_add]; rfl) (by simp only [List.set_cons_zero, List.set_cons_succ]; rfl) ?_
    refine wl_nil ?_
    refine fq_then ?_
    refine wc_region ?_
    refine wl_q (q_move rfl rfl) rfl rfl (by decide) ?_
    refine wl_q (q_fa (o1 := 3) rfl rfl Fo40_3 rfl) rfl rfl (by decide) ?_
    refine wl_q (q_load rfl rfl Mn37 (reads1 (i := 0) rfl rfl)) rfl rfl (by decide) ?_
    refine wl_buildSlice rfl rfl rfl (by decide) rfl Tryd.underlying50 (built_one Sz37 (by decide) Zs37 (by decide) rfl rfl) (fun b2 => ?_)
    refine wl_append (i := 2) (m := 1) (news := [.slice (PA k) (l.getD k PAll.z40).f3.length (PC k)]) rfl rfl rfl (by decide) Tryd.underlying50 Ap37 (by decide) rfl rfl rfl (readsAll (i := 0) rfl) rfl (by simp [Value.oneCell']) (by unfold maxLen; omega) (by omega) (fun v17 _ => ?_)
    refine wl_q (q_assign rfl rfl) rfl rfl (by decide) ?_
    refine wl_nil ?_
    refine fq_block ?_
    refine fq_then ?_
    refine wc_region ?_
    refine wl_q (q_bin rfl rfl rfl rfl) rfl rfl (by decide) ?_
    refine wl_q (q_move rfl rfl) rfl rfl (by decide) ?_
    refine wl_nil ?_
    refine fq_next (k + 1, v17) hlt (by simp only; omega) ⟨List.forall_mem_cons.2 ⟨rfl, List.forall_mem_cons.2 ⟨rfl, List.forall_mem_cons.2 ⟨rfl, List.forall_mem_cons.2 ⟨rfl, List.forall_mem_cons.2 ⟨(congrArg (fun z => some (Value.int .i64 z)) (wk1 hlt hn)), fun _ h => (by cases h)⟩⟩⟩⟩⟩, List.Sublist.cons _ (List.Sublist.cons _ (List.Sublist.cons_cons _ (List.Sublist.cons_cons _ (List.Sublist.refl []))))⟩
  · skip
    obtain rfl : k = l.length := (by have : ¬ k < l.length := (by simpa using h10); omega)
    refine wc_ownForm (i := 0) rfl (fun A3 c3 e3 hc3 => ?_)
    simp only at e3 hc3
    subst e3
    refine wc_exit ?_
    refine fq_then_exit ?_
    refine fq_then_exit ?_
    refine fq_block_hit ?_
    refine fq_then ?_
    refine wc_seq ?_
    refine wc_seq ?_
    refine wc_region ?_
    refine wl_q (q_move rfl rfl) rfl rfl (by decide) ?_
    refine wl_q (q_call rfl En23 rfl (fun w1 hw1 => acc_calls hw1 (by simp) hl (hw1.get (i := 0) rfl) hn F.row)) rfl rfl (by decide) ?_
    refine wl_q (q_assign rfl rfl) rfl rfl (by decide) ?_
    refine wl_nil ?_
    refine fq_then ?_
    refine wc_seq ?_
    refine wc_region ?_
    refine wl_q (q_move rfl rfl) rfl rfl (by decide) ?_
    refine wl_q (q_move rfl rfl) rfl rfl (by decide) ?_
    refine wl_q (q_len rfl rfl Tryd.underlying50) rfl rfl (by decide) ?_
    refine wl_q (q_bin rfl rfl rfl rfl) rfl rfl (by decide) ?_
    refine wl_nil ?_
    refine fq_then ?_
    refine wc_cond rfl (fun h24 => ?_) (fun h24 => ?_)
    · skip
      refine wc_seq ?_
      refine wc_region ?_
      refine wl_q (q_move rfl rfl) rfl rfl (by decide) ?_
      refine wl_q (q_assign rfl rfl) rfl rfl (by decide) ?_
      refine wl_nil ?_
      refine fq_then ?_
      refine wc_ret ?_
      refine fq_then_ret ?_
      refine fq_ret1 rfl rfl (fun w1 H => ?_)
      refine ⟨?_, H.toBelow (by simp)⟩
      unfold brkI
      first | (rw [if_pos (of_decide_eq_true h24)]) | (rw [if_neg (of_decide_eq_false h24)])
    · skip
      refine wc_skip ?_
      refine fq_then ?_
      refine wc_seq ?_
      refine wc_region ?_
      refine wl_q (q_assign rfl rfl) rfl rfl (by decide) ?_
      refine wl_nil ?_
      refine fq_then ?_
      refine wc_ret ?_
      refine fq_ret1 rfl rfl (fun w1 H => ?_)
      refine ⟨?_, H.toBelow (by simp)⟩
      unfold brkI
      first | (rw [if_pos (of_decide_eq_true h24)]) | (rw [if_neg (of_decide_eq_false h24)])

end Go.Proofs.YthpfhglncbkinaaDoor.SF
