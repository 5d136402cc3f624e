/- Walks (no statement stands here). -/
import Derived.Test.YthpfhglncbkinaaDoorSw8
import Derived.Test.YthpfhglncbkinaaDoorPAllx0
import Derived.Test.YthpfhglncbkinaaDoorSz
import Derived.Test.YthpfhglncbkinaaDoorWMore
import Derived.Test.YthpfhglncbkinaaDoorWLast
namespace Go.Proofs.YthpfhglncbkinaaDoor.SF
open Go.RowKit Go.Sx Go.Proofs.YthpfhglncbkinaaDoorW.PrintWords Go.Proofs.YthpfhglncbkinaaDoorW.PrintLast Go.Proofs.YthpfhglncbkinaaDoorW.PrintMore
set_option linter.unusedVariables false
set_option linter.unusedSimpArgs false
set_option maxRecDepth 100000
def freesI (car from_ : Int) (l : List PAll.S40) : Int := resI (fun i => hasB (l.getD ((mnI (mxI from_ 0) l.length).toNat + i) PAll.z40).f4 car) (l.length - (mnI (mxI from_ 0) l.length).toNat)
theorem fi_succ (Q : Nat → Bool) : ∀ m j, fi Q m (j + 1) = (fi (fun i => Q (i + 1)) m j).map (· + 1)
  | 0, j => rfl
  | m + 1, j => by
    simp only [fi]
    by_cases h : Q (j + 1) = true
    · simp [h]
    · simp only [h, if_false, Bool.false_eq_true]
      exact fi_succ Q m (j + 1)
theorem u8wf {a : Int} (h : (Lit.int .u8 a).wf = true) : 0 ≤ a ∧ a < 256 := by
  simp [Lit.wf, IntKind.min, IntKind.max, IntKind.signed, IntKind.bits] at h
  omega
theorem resI_zero (Q : Nat → Bool) : resI Q 0 = -1 := rfl
theorem resI_succ (Q : Nat → Bool) (m : Nat) : resI Q (m + 1) = if Q 0 then 0 else (if resI (fun i => Q (i + 1)) m < 0 then -1 else resI (fun i => Q (i + 1)) m + 1) := by
  unfold resI
  simp only [fi]
  by_cases h : Q 0 = true
  · simp [h]
  · simp only [h, if_false, Bool.false_eq_true, fi_succ]
    cases fi (fun i => Q (i + 1)) m 0 with
    | none => rfl
    | some j =>
      simp only [Option.map_some]
      rw [if_neg (by omega)]
      rfl
theorem resI_ge (Q : Nat → Bool) (m : Nat) : resI Q m = -1 ∨ 0 ≤ resI Q m := by
  unfold resI
  cases fi Q m 0 with
  | none => exact .inl rfl
  | some j => exact .inr (Int.natCast_nonneg _)
theorem mnmx {k n : Nat} (h : k ≤ n) : (mnI (mxI (k : Int) 0) n).toNat = k := by
  unfold mnI mxI
  rw [if_neg (by omega), if_neg (by omega), Int.toNat_natCast]
theorem freesI_at (car : Int) (l : List PAll.S40) {k : Nat} (h : k ≤ l.length) : freesI car k l = resI (fun i => hasB (l.getD (k + i) PAll.z40).f4 car) (l.length - k) := by
  unfold freesI
  rw [mnmx h]
theorem freesI_end (car : Int) (l : List PAll.S40) : freesI car ((l.length + 1 : Nat) : Int) l = -1 := by
  unfold freesI
  have : (mnI (mxI ((l.length + 1 : Nat) : Int) 0) l.length).toNat = l.length := by unfold mnI mxI; split <;> split <;> omega
  rw [this, Nat.sub_self]
  rfl
theorem freesI_step (car : Int) (l : List PAll.S40) {k : Nat} (h : k < l.length) : freesI car k l = if hasB (l.getD k PAll.z40).f4 car then 0 else (if freesI car ((k + 1 : Nat) : Int) l < 0 then -1 else freesI car ((k + 1 : Nat) : Int) l + 1) := by
  rw [freesI_at car l (by omega), freesI_at car l (by omega)]
  obtain ⟨m, hm⟩ : ∃ m, l.length - k = m + 1 := ⟨l.length - k - 1, by omega⟩
  have e : (fun i => hasB (l.getD (k + (i + 1)) PAll.z40).f4 car) = fun i => hasB (l.getD (k + 1 + i) PAll.z40).f4 car := funext fun i => by rw [show k + (i + 1) = k + 1 + i by omega]
  rw [hm, resI_succ, show l.length - (k + 1) = m by omega, e, Nat.add_zero]
theorem freesI_ge (car f : Int) (l : List PAll.S40) : freesI car f l = -1 ∨ 0 ≤ freesI car f l := resI_ge _ _
theorem later1 (car : Int) (l : List PAll.S40) {k : Nat} (hk : k ≤ l.length) (h : 0 < freesI car k l) : freesI car ((k + 1 : Nat) : Int) l = freesI car k l - 1 := by
  rcases Nat.lt_or_ge k l.length with hlt | hge
  · rw [freesI_step car l hlt] at h ⊢
    split at h
    · omega
    · split at h
      · omega
      · rename_i h1 h2
        rw [if_neg h1, if_neg h2]
        omega
  · obtain rfl : k = l.length := by omega
    rw [freesI_at car l (Nat.le_refl _), Nat.sub_self, resI_zero] at h
    omega
theorem later2 (car : Int) (l : List PAll.S40) {k : Nat} (hk : k ≤ l.length) (h : freesI car k l < 0) : freesI car k l = -1 ∧ freesI car ((k + 1 : Nat) : Int) l = -1 := by
  have h1 := freesI_ge car k l
  refine ⟨by omega, ?_⟩
  rcases Nat.lt_or_ge k l.length with hlt | hge
  · rw [freesI_step car l hlt] at h
    have h2 := freesI_ge car ((k + 1 : Nat) : Int) l
    split at h
    · omega
    · split at h
      · omega
      · omega
  · obtain rfl : k = l.length := by omega
    exact freesI_end car l
theorem later3 (car : Int) (l : List PAll.S40) {k : Nat} (hk : k ≤ l.length) (h : freesI car k l = 0) : k < l.length ∧ freesI car 0 [l.getD k PAll.z40] = 0 := by
  rcases Nat.lt_or_ge k l.length with hlt | hge
  · refine ⟨hlt, ?_⟩
    rw [freesI_step car l hlt] at h
    have h2 := freesI_ge car ((k + 1 : Nat) : Int) l
    split at h
    · rename_i hh
      rw [show (0 : Int) = ((0 : Nat) : Int) from rfl, freesI_step car _ (by simp)]
      rw [if_pos (by simpa using hh)]
      rfl
    · split at h <;> omega
  · obtain rfl : k = l.length := by omega
    rw [freesI_at car l (Nat.le_refl _), Nat.sub_self, resI_zero] at h
    omega
theorem frees_calls' (car from_ : Int) (A : Option Addr) (c : Nat) (l : List PAll.S40) (hc : l.length ≤ c) (w : World) (ad : Addr) (PA : Nat → Option Addr) (PC : Nat → Nat) (F : Facts w A l ad PA PC) : Calls Tryd.prog 13 #[.int .i64 car, .int .i64 from_, .slice A l.length c] w fun e w' => e = .returned (.int .i64 (freesI car from_ l)) ∧ Below w.heap.size w w' :=
  frees_calls car from_ A c l hc w ad PA PC F
theorem u8in {x : Int} (h0 : 0 ≤ x) (h1 : x < 256) : IntKind.i64.wrap x = x := by rw [i64_w]; unfold wrap64; omega
theorem tmodk {x : Int} {n : Nat} (h0 : 0 ≤ x) : x.tmod ((n + 1 : Nat) : Int) = ((x.toNat % (n + 1) : Nat) : Int) := by
  rw [Int.tmod_eq_emod_of_nonneg h0, Int.natCast_emod, Int.toNat_of_nonneg h0]
theorem wm1 {a : Int} (h0 : 0 < a) (h1 : a ≤ 9223372036854775807) : IntKind.i64.wrap (a - 1) = a - 1 := by rw [i64_w]; unfold wrap64; omega
theorem resI_le (Q : Nat → Bool) (m : Nat) : resI Q m < 9223372036854775807 ∨ 9223372036854775807 ≤ m := by
  by_cases hm : 9223372036854775807 ≤ m
  · exact .inr hm
  · left
    have key : ∀ (Q : Nat → Bool) (m j : Nat), ∀ i, fi Q m j = some i → i < j + m := by
      intro Q m
      induction m with
      | zero => intro j i h; cases h
      | succ m ih =>
        intro j i h
        simp only [fi] at h
        split at h
        · cases h; omega
        · have := ih (j + 1) i h; omega
    unfold resI
    cases h : fi Q m 0 with
    | none => simp only; omega
    | some i => have := key Q m 0 i h; simp only; omega

theorem later_calls (A : Option Addr) (c : Nat) (l : List PAll.S40) (car from_ : Int) (w : World) (hl : NextL w) (hr : Kd.C PAll.k40 w A l.length l) (hc : l.length ≤ c) (h0 : 0 ≤ from_) (h1 : from_ < 256) : Calls Tryd.prog 5 #[.slice A l.length c, .int .i64 car, .int .u8 from_] w fun e w' => e = .returned (.bool true) ∧ Below w.heap.size w w' := by
  obtain ⟨ad, PA, PC, F⟩ := facts_of hr
  have hn := F.hn
  obtain ⟨k, hk⟩ : ∃ k : Nat, k = from_.toNat % (l.length + 1) := ⟨_, rfl⟩
  have hkn : k ≤ l.length := by have := Nat.mod_lt from_.toNat (show 0 < l.length + 1 by omega); omega
  refine enter (w0 := w) (hp := [old w]) (env := [(0, .slice A l.length c), (1, .int .i64 car), (2, .int .u8 from_)]) Tryd.func5 rfl 62 rfl (by simp) rfl (HeapOK.start _) ?_
  refine wc_seq ?_
  refine wc_region ?_
  refine wl_q (q_assign rfl rfl) rfl rfl (by decide) ?_
  refine wl_nil ?_
  refine fq_then ?_
  refine wc_seq ?_
  refine wc_region ?_
  refine wl_q (q_call rfl En6 rfl (fun w1 hw1 => awake_calls w1 (hl.below (hw1.toBelow (by simp))))) rfl rfl (by decide) ?_
  refine wl_q (q_assign rfl rfl) rfl rfl (by decide) ?_
  refine wl_nil ?_
  refine fq_then ?_
  refine wc_seq ?_
  refine wc_seq ?_
  refine wc_region ?_
  refine wl_q (q_move rfl rfl) rfl rfl (by decide) ?_
  refine wl_q (q_not rfl rfl) rfl rfl (by decide) ?_
  refine wl_nil ?_
  refine fq_then ?_
  refine wc_false rfl ?_
  refine wc_skip ?_
  refine fq_then ?_
  refine wc_seq ?_
  refine wc_region ?_
  refine wl_q (q_move rfl rfl) rfl rfl (by decide) ?_
  refine wl_q (q_call rfl En7 rfl (fun w1 hw1 => short_calls A c l w1 _ _ _ (F.below (hw1.toBelow (by simp))))) rfl rfl (by decide) ?_
  refine wl_q (q_assign rfl rfl) rfl rfl (by decide) ?_
  refine wl_nil ?_
  refine fq_then ?_
  refine wc_seq ?_
  refine wc_seq ?_
  refine wc_region ?_
  refine wl_q (q_move rfl rfl) rfl rfl (by decide) ?_
  refine wl_q (q_not rfl rfl) rfl rfl (by decide) ?_
  refine wl_nil ?_
  refine fq_then ?_
  refine wc_cond rfl (fun h18 => ?_) (fun h18 => ?_)
  · skip
    refine wc_seq ?_
    refine wc_region ?_
    refine wl_q (q_assign rfl rfl) rfl rfl (by decide) ?_
    refine wl_nil ?_
    refine fq_then ?_
    refine wc_ret ?_
    refine fq_then_ret ?_
    refine fq_ret1 rfl rfl (fun w1 H => ?_)
    refine ⟨?_, H.toBelow (by simp)⟩
    first
      | rfl
      | (rw [later1 car l hkn (of_decide_eq_true h35)]; simp)
      | (have q := later2 car l hkn (of_decide_eq_true h41); rw [q.2]; rfl)
      | (exfalso; have q := later2 car l hkn (of_decide_eq_true h41); rw [q.1] at h44; cases h44)
      | (have q := later3 car l hkn (by have := of_decide_eq_false h35; have := of_decide_eq_false h41; omega); rw [q.2]; rfl)
      | (exfalso; have q := later3 car l hkn (by have := of_decide_eq_false h35; have := of_decide_eq_false h41; omega); have := of_decide_eq_false h52; omega)
  · skip
    have hs : l.length ≤ 60 := by (have h18' : shortB l = true := by simpa using h18); unfold shortB at h18'; rw [Bool.and_eq_true, decide_eq_true_eq] at h18'; have := h18'.2; omega
    clear h18
    refine wc_skip ?_
    refine fq_then ?_
    refine wc_seq ?_
    refine wc_region ?_
    refine wl_q (q_move rfl rfl) rfl rfl (by decide) ?_
    refine wl_q (q_conv rfl rfl Tryd.underlying5 Tryd.underlying3) rfl rfl (by decide) ?_
    refine wl_eq (t := 20) rfl (congrArg (Value.int .i64) (u8in h0 h1)) ?_
    refine wl_q (q_move rfl rfl) rfl rfl (by decide) ?_
    refine wl_q (q_len rfl rfl Tryd.underlying22) rfl rfl (by decide) ?_
    refine wl_q (q_bin rfl rfl rfl rfl) rfl rfl (by decide) ?_
    refine wl_eq (t := 23) rfl (congrArg (Value.int .i64) (wk1 (n := l.length + 1) (by omega) (by omega))) ?_
    refine wl_q (q_rem rfl rfl rfl (by omega)) rfl rfl (by decide) ?_
    refine wl_eq (t := 24) rfl (congrArg (Value.int .i64) ((tmodk h0).trans (congrArg Nat.cast hk.symm))) ?_
    refine wl_q (q_assign rfl rfl) rfl rfl (by decide) ?_
    refine wl_nil ?_
    refine fq_then ?_
    refine wc_seq ?_
    refine wc_region ?_
    refine wl_q (q_move rfl rfl) rfl rfl (by decide) ?_
    refine wl_q (q_move rfl rfl) rfl rfl (by decide) ?_
    refine wl_q (q_move rfl rfl) rfl rfl (by decide) ?_
    refine wl_q (q_call rfl En13 rfl (fun w1 hw1 => frees_calls' car k A c l hc w1 _ _ _ (F.below (hw1.toBelow (by simp))))) rfl rfl (by decide) ?_
    refine wl_q (q_assign rfl rfl) rfl rfl (by decide) ?_
    refine wl_nil ?_
    refine fq_then ?_
    refine wc_seq ?_
    refine wc_region ?_
    refine wl_q (q_move rfl rfl) rfl rfl (by decide) ?_
    refine wl_q (q_move rfl rfl) rfl rfl (by decide) ?_
    refine wl_q (q_bin rfl rfl rfl rfl) rfl rfl (by decide) ?_
    refine wl_eq (t := 31) rfl (congrArg (Value.int .i64) (wk1 (n := l.length + 1) (by omega) (by omega))) ?_
    refine wl_q (q_move rfl rfl) rfl rfl (by decide) ?_
    refine wl_q (q_call rfl En13 rfl (fun w1 hw1 => frees_calls' car ((k + 1 : Nat) : Int) A c l hc w1 _ _ _ (F.below (hw1.toBelow (by simp))))) rfl rfl (by decide) ?_
    refine wl_q (q_assign rfl rfl) rfl rfl (by decide) ?_
    refine wl_nil ?_
    refine fq_then ?_
    refine wc_seq ?_
    refine wc_seq ?_
    refine wc_region ?_
    refine wl_q (q_move rfl rfl) rfl rfl (by decide) ?_
    refine wl_q (q_bin rfl rfl rfl rfl) rfl rfl (by decide) ?_
    refine wl_nil ?_
    refine fq_then ?_
    refine wc_cond rfl (fun h35 => ?_) (fun h35 => ?_)
    · skip
      refine wc_seq ?_
      refine wc_region ?_
      refine wl_q (q_move rfl rfl) rfl rfl (by decide) ?_
      refine wl_q (q_move rfl rfl) rfl rfl (by decide) ?_
      refine wl_q (q_bin rfl rfl rfl rfl) rfl rfl (by decide) ?_
      refine wl_eq (t := 38) rfl (congrArg (Value.int .i64) (wm1 (of_decide_eq_true h35) (by rw [freesI_at car l hkn]; have := resI_le (fun i => hasB (l.getD (k + i) PAll.z40).f4 car) (l.length - k); omega))) ?_
      refine wl_q (q_bin rfl rfl rfl rfl) rfl rfl (by decide) ?_
      refine wl_q (q_assign rfl rfl) rfl rfl (by decide) ?_
      refine wl_nil ?_
      refine fq_then ?_
      refine wc_ret ?_
      refine fq_then_ret ?_
      refine fq_ret1 rfl rfl (fun w1 H => ?_)
      refine ⟨?_, H.toBelow (by simp)⟩
      first
        | rfl
        | (rw [later1 car l hkn (of_decide_eq_true h35)]; simp)
        | (have q := later2 car l hkn (of_decide_eq_true h41); rw [q.2]; rfl)
        | (exfalso; have q := later2 car l hkn (of_decide_eq_true h41); rw [q.1] at h44; cases h44)
        | (have q := later3 car l hkn (by have := of_decide_eq_false h35; have := of_decide_eq_false h41; omega); rw [q.2]; rfl)
        | (exfalso; have q := later3 car l hkn (by have := of_decide_eq_false h35; have := of_decide_eq_false h41; omega); have := of_decide_eq_false h52; omega)
    · skip
      refine wc_skip ?_
      refine fq_then ?_
      refine wc_seq ?_
      refine wc_seq ?_
      refine wc_region ?_
      refine wl_q (q_move rfl rfl) rfl rfl (by decide) ?_
      refine wl_q (q_bin rfl rfl rfl rfl) rfl rfl (by decide) ?_
      refine wl_nil ?_
      refine fq_then ?_
      refine wc_cond rfl (fun h41 => ?_) (fun h41 => ?_)
      · skip
        refine wc_seq ?_
        refine wc_region ?_
        refine wl_q (q_move rfl rfl) rfl rfl (by decide) ?_
        refine wl_q (q_bin rfl rfl rfl rfl) rfl rfl (by decide) ?_
        refine wl_q (q_move rfl rfl) rfl rfl (by decide) ?_
        refine wl_split (t := 44) rfl (fun h44 => ?_) (fun h44 => ?_)
        · skip
          refine wl_want (b := true) (q_move rfl rfl) rfl rfl rfl rfl (by decide) ?_
          refine wl_want (b := true) (q_bin rfl rfl rfl rfl) rfl rfl rfl rfl (by decide) ?_
          refine wl_q (q_pick rfl rfl rfl) rfl rfl (by decide) ?_
          refine wl_q (q_assign rfl rfl) rfl rfl (by decide) ?_
          refine wl_nil ?_
          refine fq_then ?_
          refine wc_ret ?_
          refine fq_then_ret ?_
          refine fq_ret1 rfl rfl (fun w1 H => ?_)
          refine ⟨?_, H.toBelow (by simp)⟩
          first
            | rfl
            | (rw [later1 car l hkn (of_decide_eq_true h35)]; simp)
            | (have q := later2 car l hkn (of_decide_eq_true h41); rw [q.2]; rfl)
            | (exfalso; have q := later2 car l hkn (of_decide_eq_true h41); rw [q.1] at h44; cases h44)
            | (have q := later3 car l hkn (by have := of_decide_eq_false h35; have := of_decide_eq_false h41; omega); rw [q.2]; rfl)
            | (exfalso; have q := later3 car l hkn (by have := of_decide_eq_false h35; have := of_decide_eq_false h41; omega); have := of_decide_eq_false h52; omega)
        · skip
          refine wl_skip (b := false) rfl rfl rfl rfl (by decide) ?_
          refine wl_skip (b := false) rfl rfl rfl rfl (by decide) ?_
          refine wl_q (q_pick rfl rfl rfl) rfl rfl (by decide) ?_
          refine wl_q (q_assign rfl rfl) rfl rfl (by decide) ?_
          refine wl_nil ?_
          refine fq_then ?_
          refine wc_ret ?_
          refine fq_then_ret ?_
          refine fq_ret1 rfl rfl (fun w1 H => ?_)
          refine ⟨?_, H.toBelow (by simp)⟩
          first
            | rfl
            | (rw [later1 car l hkn (of_decide_eq_true h35)]; simp)
            | (have q := later2 car l hkn (of_decide_eq_true h41); rw [q.2]; rfl)
            | (exfalso; have q := later2 car l hkn (of_decide_eq_true h41); rw [q.1] at h44; cases h44)
            | (have q := later3 car l hkn (by have := of_decide_eq_false h35; have := of_decide_eq_false h41; omega); rw [q.2]; rfl)
            | (exfalso; have q := later3 car l hkn (by have := of_decide_eq_false h35; have := of_decide_eq_false h41; omega); have := of_decide_eq_false h52; omega)
      · skip
        refine wc_skip ?_
        refine fq_then ?_
        refine wc_seq ?_
        refine wc_region ?_
        refine wl_q (q_move rfl rfl) rfl rfl (by decide) ?_
        refine wl_q (q_move rfl rfl) rfl rfl (by decide) ?_
        refine wl_q (q_len rfl rfl Tryd.underlying22) rfl rfl (by decide) ?_
        refine wl_q (q_bin rfl rfl rfl rfl) rfl rfl (by decide) ?_
        refine wl_q (q_move rfl rfl) rfl rfl (by decide) ?_
        refine wl_split (t := 52) rfl (fun h52 => ?_) (fun h52 => ?_)
        · skip
          refine wl_want (b := true) (q_move rfl rfl) rfl rfl rfl rfl (by decide) ?_
          refine wl_want (b := true) (q_move rfl rfl) rfl rfl rfl rfl (by decide) ?_
          refine wl_want (b := true) (q_move rfl rfl) rfl rfl rfl rfl (by decide) ?_
          refine wl_want (b := true) (q_indexO rfl rfl (F.hA (by have := of_decide_eq_true h52; omega)) rfl Tryd.underlying22 Sz40 (by omega) (by have := of_decide_eq_true h52; omega)) rfl rfl rfl rfl (by decide) ?_
          refine wl_want (b := true) (q_loadA (cs := cells5 (l.getD k PAll.z40) (PA k) (PC k)) rfl rfl Mn40 Sz40 rfl (reads_old (by simp) (F.cell k (by have := of_decide_eq_true h52; omega)))) rfl rfl rfl rfl (by decide) ?_
          refine wl_unguard (b := true) rfl rfl rfl ?_
          refine wl_buildSlice rfl rfl rfl (by decide) rfl Tryd.underlying22 (built_one Sz40 (by decide) Zs40 (by decide) rfl rfl) (fun b1 => ?_)
          refine wl_want (b := true) (q_call rfl En13 rfl (fun w1 hw1 => frees_calls' car 0 _ 1 [l.getD k PAll.z40] (Nat.le_refl 1) w1 _ _ _ (facts_one (i := 0) hw1 rfl (Kd.C_below (F.row k (by have := of_decide_eq_true h52; omega)) (hw1.toBelow (by simp))) (F.le k)))) rfl rfl rfl rfl (by decide) ?_
          refine wl_want (b := true) (q_bin rfl rfl rfl rfl) rfl rfl rfl rfl (by decide) ?_
          refine wl_q (q_pick rfl rfl rfl) rfl rfl (by decide) ?_
          refine wl_q (q_assign rfl rfl) rfl rfl (by decide) ?_
          refine wl_nil ?_
          refine fq_then ?_
          refine wc_ret ?_
          refine fq_ret1 rfl rfl (fun w1 H => ?_)
          refine ⟨?_, H.toBelow (by simp)⟩
          first
            | rfl
            | (rw [later1 car l hkn (of_decide_eq_true h35)]; simp)
            | (have q := later2 car l hkn (of_decide_eq_true h41); rw [q.2]; rfl)
            | (exfalso; have q := later2 car l hkn (of_decide_eq_true h41); rw [q.1] at h44; cases h44)
            | (have q := later3 car l hkn (by have := of_decide_eq_false h35; have := of_decide_eq_false h41; omega); rw [q.2]; rfl)
            | (exfalso; have q := later3 car l hkn (by have := of_decide_eq_false h35; have := of_decide_eq_false h41; omega); have := of_decide_eq_false h52; omega)
        · skip
          refine wl_skip (b := false) rfl rfl rfl rfl (by decide) ?_
          refine wl_skip (b := false) rfl rfl rfl rfl (by decide) ?_
          refine wl_skip (b := false) rfl rfl rfl rfl (by decide) ?_
          refine wl_skip (b := false) rfl rfl rfl rfl (by decide) ?_
          refine wl_skip (b := false) rfl rfl rfl rfl (by decide) ?_
          refine wl_skip (b := false) rfl rfl rfl rfl (by decide) ?_
          refine wl_skip (b := false) rfl rfl rfl rfl (by decide) ?_
          refine wl_skip (b := false) rfl rfl rfl rfl (by decide) ?_
          refine wl_q (q_pick rfl rfl rfl) rfl rfl (by decide) ?_
          refine wl_q (q_assign rfl rfl) rfl rfl (by decide) ?_
          refine wl_nil ?_
          refine fq_then ?_
          refine wc_ret ?_
          refine fq_ret1 rfl rfl (fun w1 H => ?_)
          refine ⟨?_, H.toBelow (by simp)⟩
          first
            | rfl
            | (rw [later1 car l hkn (of_decide_eq_true h35)]; simp)
            | (have q := later2 car l hkn (of_decide_eq_true h41); rw [q.2]; rfl)
            | (exfalso; have q := later2 car l hkn (of_decide_eq_true h41); rw [q.1] at h44; cases h44)
            | (have q := later3 car l hkn (by have := of_decide_eq_false h35; have := of_decide_eq_false h41; omega); rw [q.2]; rfl)
            | (exfalso; have q := later3 car l hkn (by have := of_decide_eq_false h35; have := of_decide_eq_false h41; omega); have := of_decide_eq_false h52; omega)

end Go.Proofs.YthpfhglncbkinaaDoor.SF
