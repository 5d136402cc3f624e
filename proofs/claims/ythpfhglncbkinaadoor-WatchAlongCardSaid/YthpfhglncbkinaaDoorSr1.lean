/- Walks (no statement stands here). -/
import Derived.Test.YthpfhglncbkinaaDoorSw9
import Derived.Test.YthpfhglncbkinaaDoorPAllx0
import Derived.Test.YthpfhglncbkinaaDoorSz
import Derived.Test.YthpfhglncbkinaaDoorSv
import Derived.Test.YthpfhglncbkinaaDoorWMore
import Derived.Test.YthpfhglncbkinaaDoorWLast
namespace Go.Proofs.YthpfhglncbkinaaDoor.SF
open Go.RowKit Go.Sx Go.Proofs.YthpfhglncbkinaaDoorW.PrintWords Go.Proofs.YthpfhglncbkinaaDoorW.PrintLast Go.Proofs.YthpfhglncbkinaaDoorW.PrintMore
set_option linter.unusedVariables false
set_option linter.unusedSimpArgs false
set_option maxRecDepth 100000
theorem wid {x : Int} (h0 : -9223372036854775808 ≤ x) (h1 : x < 9223372036854775808) : IntKind.i64.wrap x = x := by rw [i64_w]; unfold wrap64; omega
def refK (lag : Int) (told : List Int) : Int :=
  if (told.length : Int) - 1 - (if 8 < (if lag < 0 then 0 else lag) then 8 else (if lag < 0 then 0 else lag)) < 0 then 0 else
    (if told.getD ((told.length : Int) - 1 - (if 8 < (if lag < 0 then 0 else lag) then 8 else (if lag < 0 then 0 else lag))).toNat 0 < 0 then 0 else
      (if 1048576 < told.getD ((told.length : Int) - 1 - (if 8 < (if lag < 0 then 0 else lag) then 8 else (if lag < 0 then 0 else lag))).toNat 0 then 1048576 else told.getD ((told.length : Int) - 1 - (if 8 < (if lag < 0 then 0 else lag) then 8 else (if lag < 0 then 0 else lag))).toNat 0))
theorem IntRow.readsI {w : World} {A : Option Addr} {l : List Int} {ad : Addr} (h : IntRow w A l ad) {hp : List Sx.Item} (hm : old w ∈ hp) {i : Int} (h0 : 0 ≤ i) (hk : i < l.length) : Reads w hp (ad.add (i.toNat * 1)) [.int .i64 (l.getD i.toNat 0)] := by
  obtain ⟨k, rfl⟩ : ∃ k : Nat, i = k := ⟨i.toNat, by omega⟩
  exact h.reads hm (by omega)
def refMay (f t : Int) : Bool :=
  if f < 0 ∨ 5 < f ∨ t < 0 ∨ 5 < t then false else if f = t ∨ t = 5 then true else if f = 0 then t == 1 else if f = 1 then (t == 0 || t == 2) else if f = 2 then (t == 1 || t == 3) else if f = 3 then (t == 0 || t == 1 || t == 4) else if f = 4 then (t == 0 || t == 1 || t == 3) else (t == 0 || t == 1)
theorem refMay_eq (f t : Int) : mayB f t = refMay f t := by
  by_cases h : f < 0 ∨ 5 < f ∨ t < 0 ∨ 5 < t
  · unfold refMay
    rw [if_pos h]
    have : isB f = false ∨ isB t = false := by
      unfold isB
      rcases h with h | h | h | h
      · exact .inl (by rw [decide_eq_false (by omega)]; rfl)
      · exact .inl (by rw [decide_eq_false (show ¬ f < 6 by omega), Bool.and_false])
      · exact .inr (by rw [decide_eq_false (by omega)]; rfl)
      · exact .inr (by rw [decide_eq_false (show ¬ t < 6 by omega), Bool.and_false])
    unfold mayB
    rcases this with e | e <;> rw [e] <;> simp
  · have hf : f = 0 ∨ f = 1 ∨ f = 2 ∨ f = 3 ∨ f = 4 ∨ f = 5 := by omega
    have ht : t = 0 ∨ t = 1 ∨ t = 2 ∨ t = 3 ∨ t = 4 ∨ t = 5 := by omega
    rcases hf with rfl | rfl | rfl | rfl | rfl | rfl <;> rcases ht with rfl | rfl | rfl | rfl | rfl | rfl <;> decide
/-- Two places of a row that may stand beside each other. -/
def sp (x : Int) : Bool := x == 2 || x == 4
def pairOK (l : List Int) (i j : Nat) : Prop := ¬ (i ≠ j ∧ sp (l.getD i 0) = true ∧ sp (l.getD j 0) = true) ∧ ¬ (l.getD i 0 = 0 ∧ l.getD j 0 ≠ 0 ∧ l.getD j 0 ≠ 5)
theorem count_two {p : Int → Bool} : ∀ {l : List Int}, (∀ i j, i < l.length → j < l.length → i ≠ j → ¬ (p (l.getD i 0) = true ∧ p (l.getD j 0) = true)) → l.countP p ≤ 1
  | [], _ => by simp
  | x :: r, h => by
    have ih := count_two (l := r) (fun i j hi hj hne hh => h (i + 1) (j + 1) (by simp; omega) (by simp; omega) (by omega) (by simpa using hh))
    rw [List.countP_cons]
    by_cases hx : p x = true
    · rw [if_pos hx]
      have : r.countP p = 0 := by
        rw [List.countP_eq_zero]
        intro y hy hp
        obtain ⟨j, hj, rfl⟩ := List.mem_iff_getElem.1 hy
        exact h 0 (j + 1) (by simp) (by simp; omega) (by omega) ⟨by simpa using hx, by simpa [hj] using hp⟩
      omega
    · rw [if_neg hx]; omega
theorem two_count {p : Int → Bool} : ∀ {l : List Int} {i j : Nat}, i < j → j < l.length → p (l.getD i 0) = true → p (l.getD j 0) = true → 2 ≤ l.countP p
  | [], i, j, _, hj, _, _ => by simp at hj
  | x :: r, 0, j + 1, _, hj, hi1, hj1 => by
    rw [List.countP_cons, if_pos (by simpa using hi1)]
    have : 0 < r.countP p := List.countP_pos_iff.2 ⟨r.getD j 0, by
      rw [List.getD_eq_getElem?_getD, List.getElem?_eq_getElem (by simpa using hj)]; exact List.getElem_mem _, by simpa using hj1⟩
    omega
  | x :: r, i + 1, j + 1, hij, hj, hi1, hj1 => by
    have := two_count (l := r) (i := i) (j := j) (by omega) (by simpa using hj) (by simpa using hi1) (by simpa using hj1)
    rw [List.countP_cons]; omega
theorem cn_sum (l : List Int) : cn l 2 + cn l 4 = (l.countP sp : Nat) := by
  induction l with
  | nil => rfl
  | cons x r ih =>
    unfold cn at *
    rw [List.countP_cons, List.count_cons, List.count_cons]
    unfold sp at *
    by_cases h2 : x = 2
    · subst h2; simp; omega
    · by_cases h4 : x = 4
      · subst h4; simp; omega
      · simp [h2, h4]; omega
theorem fits_iff (l : List Int) : fitsB l = true ↔ (∀ i, i < l.length → isB (l.getD i 0) = true) ∧ ∀ i j, i < l.length → j < l.length → pairOK l i j := by
  have hmem : ∀ i, i < l.length → l.getD i 0 ∈ l := fun i hi => by
    rw [List.getD_eq_getElem?_getD, List.getElem?_eq_getElem hi]; exact List.getElem_mem hi
  have hall : l.all isB = true ↔ ∀ i, i < l.length → isB (l.getD i 0) = true := by
    rw [List.all_eq_true]
    constructor
    · exact fun h i hi => h _ (hmem i hi)
    · intro h x hx
      obtain ⟨j, hj, rfl⟩ := List.mem_iff_getElem.1 hx
      have := h j hj
      rw [List.getD_eq_getElem?_getD, List.getElem?_eq_getElem hj] at this
      exact this
  have hsp : cn l 2 + cn l 4 ≤ 1 ↔ ∀ i j, i < l.length → j < l.length → ¬ (i ≠ j ∧ sp (l.getD i 0) = true ∧ sp (l.getD j 0) = true) := by
    rw [cn_sum]
    constructor
    · rintro h i j hi hj ⟨hne, h1, h2⟩
      rcases Nat.lt_or_ge i j with hij | hij
      · have := two_count (p := sp) hij hj h1 h2; omega
      · have := two_count (p := sp) (show j < i by omega) hi h2 h1; omega
    · intro h
      have := count_two (p := sp) (l := l) (fun i j hi hj hne hh => h i j hi hj ⟨hne, hh.1, hh.2⟩)
      omega
  have hno : (cn l 0 = 0 ∨ cn l 0 + cn l 5 = (l.length : Int)) ↔ ∀ i j, i < l.length → j < l.length → ¬ (l.getD i 0 = 0 ∧ l.getD j 0 ≠ 0 ∧ l.getD j 0 ≠ 5) := by
    have h0 : cn l 0 = 0 ↔ ∀ i, i < l.length → l.getD i 0 ≠ 0 := by
      unfold cn
      rw [Int.natCast_eq_zero, List.count_eq_zero]
      constructor
      · exact fun h i hi e => h (e ▸ hmem i hi)
      · intro h hm
        obtain ⟨j, hj, e⟩ := List.mem_iff_getElem.1 hm
        exact h j hj (by rw [List.getD_eq_getElem?_getD, List.getElem?_eq_getElem hj]; exact e)
    have h5 : cn l 0 + cn l 5 = (l.length : Int) ↔ ∀ j, j < l.length → l.getD j 0 = 0 ∨ l.getD j 0 = 5 := by
      have e : cn l 0 + cn l 5 = (l.countP (fun x => x == 0 || x == 5) : Nat) := by
        clear hmem hall hsp h0
        induction l with
        | nil => rfl
        | cons x r ih =>
          unfold cn at *
          rw [List.countP_cons, List.count_cons, List.count_cons]
          by_cases h2 : x = 0
          · subst h2; simp; omega
          · by_cases h4 : x = 5
            · subst h4; simp; omega
            · simp [h2, h4]; omega
      rw [e, Int.ofNat_inj, List.countP_eq_length]
      constructor
      · intro h j hj
        have := h _ (hmem j hj)
        simpa using this
      · intro h x hx
        obtain ⟨j, hj, rfl⟩ := List.mem_iff_getElem.1 hx
        have := h j hj
        rw [List.getD_eq_getElem?_getD, List.getElem?_eq_getElem hj] at this
        simpa using this
    rw [h0, h5]
    constructor
    · rintro (h | h) i j hi hj ⟨e1, e2, e3⟩
      · exact h i hi e1
      · rcases h j hj with e | e
        · exact e2 e
        · exact e3 e
    · intro h
      by_cases hz : ∀ i, i < l.length → l.getD i 0 ≠ 0
      · exact .inl hz
      · right
        intro j hj
        have : ∃ i, i < l.length ∧ l.getD i 0 = 0 := by
          refine Classical.byContradiction fun hc => hz fun i hi e => hc ⟨i, hi, e⟩
        obtain ⟨i, hi, e⟩ := this
        have := h i j hi hj
        by_cases h1 : l.getD j 0 = 0
        · exact .inl h1
        · by_cases h2 : l.getD j 0 = 5
          · exact .inr h2
          · exact absurd ⟨e, h1, h2⟩ this
  unfold fitsB
  simp only [Bool.and_eq_true, Bool.or_eq_true, beq_iff_eq, decide_eq_true_eq]
  rw [hall, hsp, hno]
  unfold pairOK
  constructor
  · rintro ⟨h1, h2, h3⟩
    exact ⟨h1, fun i j hi hj => ⟨h3 i j hi hj, h2 i j hi hj⟩⟩
  · rintro ⟨h1, h2⟩
    exact ⟨h1, fun i j hi hj => (h2 i j hi hj).2, fun i j hi hj => (h2 i j hi hj).1⟩
theorem fits_f1 {l : List Int} {i : Nat} (hi : i < l.length) (h : isB (l.getD i 0) = false) : fitsB l = false := fits_no hi h
theorem fits_f2 {l : List Int} {i j : Nat} (hi : i < l.length) (hj : j < l.length) (h : ¬ pairOK l i j) : fitsB l = false := by
  cases hf : fitsB l with
  | false => rfl
  | true => exact absurd (((fits_iff l).1 hf).2 i j hi hj) h

theorem isB_mk {p : Int} (h0 : 0 ≤ p) (h1 : p ≤ 5) : isB p = true := by unfold isB; rw [decide_eq_true h0, decide_eq_true (show p < 6 by omega)]; rfl
theorem isB_no {p : Int} (h : p < 0 ∨ 5 < p) : isB p = false := by
  unfold isB
  rcases h with h | h
  · rw [decide_eq_false (by omega)]; rfl
  · rw [decide_eq_false (show ¬ p < 6 by omega), Bool.and_false]
def refHas (x car : Int) : Bool := if car < 0 ∨ 63 < car then false else (x / 2 ^ car.toNat) % 2 == 1
theorem halve {x : Int} (h0 : 0 ≤ x) (h1 : x < 18446744073709551616) (k : Nat) : IntKind.u64.wrap ((x / 2 ^ k).tdiv 2) = x / 2 ^ (k + 1) := by
  have hp : (0 : Int) < 2 ^ k := Int.pow_pos (by decide)
  have h2 : 0 ≤ x / 2 ^ k := Int.ediv_nonneg h0 (by omega)
  have h3 : x / 2 ^ k ≤ x := Int.ediv_le_self _ h0
  rw [Int.tdiv_eq_ediv_of_nonneg h2, Int.ediv_ediv_of_nonneg (by omega), Int.pow_succ]
  have h4 : 0 ≤ x / (2 ^ k * 2) := Int.ediv_nonneg h0 (by omega)
  have h5 : x / (2 ^ k * 2) ≤ x := Int.ediv_le_self _ h0
  simp only [IntKind.wrap, IntKind.signed, IntKind.bits]
  generalize x / (2 ^ k * 2) = y at *
  simp
  omega
theorem and_pow (X c : Nat) (hX : X < 18446744073709551616) (hc : c < 64) : (bits .and .u64 (X : Int) ((2 ^ c : Nat) : Int) != 0) = ((X : Int) / 2 ^ c % 2 == 1) := by
  have h2 : 2 ^ c < 18446744073709551616 := by
    calc 2 ^ c < 2 ^ 64 := Nat.pow_lt_pow_right (by decide) hc
      _ = 18446744073709551616 := by decide
  have hb : bits .and .u64 (X : Int) ((2 ^ c : Nat) : Int) = ((X &&& 2 ^ c : Nat) : Int) := by
    show IntKind.u64.wrap ((BitVec.ofInt 64 (X : Int) &&& BitVec.ofInt 64 ((2 ^ c : Nat) : Int)).toNat : Int) = _
    rw [BitVec.ofInt_natCast, BitVec.ofInt_natCast, BitVec.toNat_and, BitVec.toNat_ofNat, BitVec.toNat_ofNat, Nat.mod_eq_of_lt (show X < 2 ^ 64 by omega), Nat.mod_eq_of_lt (show 2 ^ c < 2 ^ 64 by omega)]
    have : X &&& 2 ^ c ≤ X := Nat.and_le_left
    simp only [IntKind.wrap, IntKind.signed, IntKind.bits]
    generalize X &&& 2 ^ c = y at *
    simp
    omega
  have hand : X &&& 2 ^ c = if X.testBit c then 2 ^ c else 0 := by
    apply Nat.eq_of_testBit_eq
    intro i
    rw [Nat.testBit_and, Nat.testBit_two_pow]
    by_cases hi : c = i
    · subst hi; cases X.testBit c <;> simp [Nat.testBit_two_pow]
    · cases X.testBit c <;> simp [Nat.testBit_two_pow, hi]
  rw [hb, hand]
  have ht := Nat.testBit_eq_decide_div_mod_eq (x := X) (i := c)
  have e : (X : Int) / 2 ^ c % 2 = ((X / 2 ^ c % 2 : Nat) : Int) := by norm_cast
  rw [e, ht]
  have hp : 0 < 2 ^ c := Nat.pow_pos (by decide)
  by_cases h : X / 2 ^ c % 2 = 1
  · rw [h, if_pos (by simp)]
    have h3 : (((2 ^ c : Nat) : Int) != 0) = true := by rw [bne_iff_ne]; omega
    rw [h3]; rfl
  · rw [if_neg (by simpa using h)]
    have h3 : (((X / 2 ^ c % 2 : Nat) : Int) == 1) = false := beq_eq_false_iff_ne.2 (by omega)
    rw [h3]; rfl
theorem has_eq {x car : Int} (h0 : 0 ≤ x) (h1 : x < 18446744073709551616) : hasB x car = refHas x car := by
  unfold hasB refHas bitI
  by_cases hc : car < 0 ∨ 63 < car
  · rw [if_pos hc, if_pos (by omega)]
    obtain ⟨X, rfl⟩ : ∃ X : Nat, x = X := ⟨x.toNat, by omega⟩
    have hz : bits .and .u64 (X : Int) 0 = 0 := by
      show IntKind.u64.wrap ((BitVec.ofInt 64 (X : Int) &&& BitVec.ofInt 64 0).toNat : Int) = 0
      rw [show BitVec.ofInt 64 0 = 0#64 from rfl, BitVec.and_zero]
      rfl
    rw [hz]; rfl
  · rw [if_neg hc, if_neg (by omega)]
    obtain ⟨X, rfl⟩ : ∃ X : Nat, x = X := ⟨x.toNat, by omega⟩
    obtain ⟨c, rfl⟩ : ∃ c : Nat, car = c := ⟨car.toNat, by omega⟩
    have hcl : c < 64 := by omega
    have h2 : 2 ^ c < 18446744073709551616 := by
      calc 2 ^ c < 2 ^ 64 := Nat.pow_lt_pow_right (by decide) hcl
        _ = 18446744073709551616 := by decide
    have hw : IntKind.u64.wrap (1 * 2 ^ (min (c : Int).toNat IntKind.u64.bits)) = ((2 ^ c : Nat) : Int) := by
      rw [Int.toNat_natCast, Int.one_mul, show min c IntKind.u64.bits = c from Nat.min_eq_left (by show c ≤ 64; omega)]
      have e : (2 : Int) ^ c = ((2 ^ c : Nat) : Int) := (Int.natCast_pow 2 c).symm
      rw [e]
      simp only [IntKind.wrap, IntKind.signed, IntKind.bits]
      generalize 2 ^ c = y at *
      simp
      omega
    rw [hw, Int.toNat_natCast]
    exact and_pow X c (by omega) hcl

theorem known_calls (lag : Int) (A : Option Addr) (c : Nat) (l : List Int) (w : World) (hr : Kd.C (Kd.int .i64) w A l.length l) : Calls Tryd.prog 18 #[.int .i64 lag, .slice A l.length c] w fun e w' => e = .returned (.int .i64 (refK lag l)) ∧ Below w.heap.size w w' := by
  obtain ⟨ad, R⟩ := introw_of hr
  have hn := R.hn
  refine enter (w0 := w) (hp := [old w]) (env := [(0, .int .i64 lag), (1, .slice A l.length c)]) Tryd.func18 rfl 27 rfl (by simp) rfl (HeapOK.start _) ?_
  refine wc_seq ?_
  refine wc_region ?_
  refine wl_q (q_assign rfl rfl) rfl rfl (by decide) ?_
  refine wl_nil ?_
  refine fq_then ?_
  refine wc_seq ?_
  refine wc_seq ?_
  refine wc_region ?_
  refine wl_q (q_move rfl rfl) rfl rfl (by decide) ?_
  refine wl_q (q_bin rfl rfl rfl rfl) rfl rfl (by decide) ?_
  refine wl_nil ?_
  refine fq_then ?_
  refine wc_cond rfl (fun h8 => ?_) (fun h8 => ?_)
  · skip
    have q8 := h8
    try simp only [decide_eq_true_eq, decide_eq_false_iff_not, beq_iff_eq, beq_eq_false_iff_ne, bne_iff_ne, ne_eq, bne_eq_false_iff_eq, Int.not_lt, Int.not_le] at q8
    refine wc_region ?_
    refine wl_q (q_assign rfl rfl) rfl rfl (by decide) ?_
    refine wl_nil ?_
    refine fq_then ?_
    refine wc_seq ?_
    refine wc_seq ?_
    refine wc_region ?_
    refine wl_q (q_move rfl rfl) rfl rfl (by decide) ?_
    refine wl_q (q_bin rfl rfl rfl rfl) rfl rfl (by decide) ?_
    refine wl_nil ?_
    refine fq_then ?_
    refine wc_cond rfl (fun h10 => ?_) (fun h10 => ?_)
    · skip
      have q10 := h10
      try simp only [decide_eq_true_eq, decide_eq_false_iff_not, beq_iff_eq, beq_eq_false_iff_ne, bne_iff_ne, ne_eq, bne_eq_false_iff_eq, Int.not_lt, Int.not_le] at q10
      refine wc_region ?_
      refine wl_q (q_assign rfl rfl) rfl rfl (by decide) ?_
      refine wl_nil ?_
      refine fq_then ?_
      refine wc_seq ?_
      refine wc_region ?_
      refine wl_q (q_move rfl rfl) rfl rfl (by decide) ?_
      refine wl_q (q_len rfl rfl Tryd.underlying37) rfl rfl (by decide) ?_
      refine wl_q (q_bin rfl rfl rfl rfl) rfl rfl (by decide) ?_
      refine wl_eq (t := 13) rfl (congrArg (Value.int .i64) (wid (by omega) (by omega))) ?_
      refine wl_q (q_move rfl rfl) rfl rfl (by decide) ?_
      refine wl_q (q_bin rfl rfl rfl rfl) rfl rfl (by decide) ?_
      refine wl_eq (t := 15) rfl (congrArg (Value.int .i64) (wid (by omega) (by omega))) ?_
      refine wl_q (q_assign rfl rfl) rfl rfl (by decide) ?_
      refine wl_nil ?_
      refine fq_then ?_
      refine wc_seq ?_
      refine wc_seq ?_
      refine wc_region ?_
      refine wl_q (q_move rfl rfl) rfl rfl (by decide) ?_
      refine wl_q (q_bin rfl rfl rfl rfl) rfl rfl (by decide) ?_
      refine wl_nil ?_
      refine fq_then ?_
      refine wc_cond rfl (fun h17 => ?_) (fun h17 => ?_)
      · skip
        have q17 := h17
        try simp only [decide_eq_true_eq, decide_eq_false_iff_not, beq_iff_eq, beq_eq_false_iff_ne, bne_iff_ne, ne_eq, bne_eq_false_iff_eq, Int.not_lt, Int.not_le] at q17
        refine wc_seq ?_
        refine wc_region ?_
        refine wl_q (q_assign rfl rfl) rfl rfl (by decide) ?_
        refine wl_nil ?_
        refine fq_then ?_
        refine wc_ret ?_
        refine fq_then_ret ?_
        refine fq_ret1 rfl rfl (fun w1 H => ?_)
        refine ⟨congrArg (fun z => Ending.returned (Value.int .i64 z)) ?_, H.toBelow (by simp)⟩
        unfold refK
        repeat' split
        all_goals first | rfl | omega | (exfalso; omega)
      · skip
        have q17 := h17
        try simp only [decide_eq_true_eq, decide_eq_false_iff_not, beq_iff_eq, beq_eq_false_iff_ne, bne_iff_ne, ne_eq, bne_eq_false_iff_eq, Int.not_lt, Int.not_le] at q17
        refine wc_skip ?_
        refine fq_then ?_
        refine wc_seq ?_
        refine wc_region ?_
        refine wl_q (q_move rfl rfl) rfl rfl (by decide) ?_
        refine wl_q (q_move rfl rfl) rfl rfl (by decide) ?_
        refine wl_q (q_indexO rfl rfl (R.hA (by omega)) rfl Tryd.underlying37 Sz3 (by omega) (by omega)) rfl rfl (by decide) ?_
        refine wl_q (q_load rfl rfl Mn3 (R.readsI (by simp) (by omega) (by omega))) rfl rfl (by decide) ?_
        refine wl_q (q_assign rfl rfl) rfl rfl (by decide) ?_
        refine wl_nil ?_
        refine fq_then ?_
        refine wc_seq ?_
        refine wc_seq ?_
        refine wc_region ?_
        refine wl_q (q_move rfl rfl) rfl rfl (by decide) ?_
        refine wl_q (q_bin rfl rfl rfl rfl) rfl rfl (by decide) ?_
        refine wl_nil ?_
        refine fq_then ?_
        refine wc_cond rfl (fun h23 => ?_) (fun h23 => ?_)
        · skip
          have q23 := h23
          try simp only [decide_eq_true_eq, decide_eq_false_iff_not, beq_iff_eq, beq_eq_false_iff_ne, bne_iff_ne, ne_eq, bne_eq_false_iff_eq, Int.not_lt, Int.not_le] at q23
          refine wc_seq ?_
          refine wc_region ?_
          refine wl_q (q_assign rfl rfl) rfl rfl (by decide) ?_
          refine wl_nil ?_
          refine fq_then ?_
          refine wc_ret ?_
          refine fq_then_ret ?_
          refine fq_ret1 rfl rfl (fun w1 H => ?_)
          refine ⟨congrArg (fun z => Ending.returned (Value.int .i64 z)) ?_, H.toBelow (by simp)⟩
          unfold refK
          repeat' split
          all_goals first | rfl | omega | (exfalso; omega)
        · skip
          have q23 := h23
          try simp only [decide_eq_true_eq, decide_eq_false_iff_not, beq_iff_eq, beq_eq_false_iff_ne, bne_iff_ne, ne_eq, bne_eq_false_iff_eq, Int.not_lt, Int.not_le] at q23
          refine wc_skip ?_
          refine fq_then ?_
          refine wc_seq ?_
          refine wc_seq ?_
          refine wc_region ?_
          refine wl_q (q_move rfl rfl) rfl rfl (by decide) ?_
          refine wl_q (q_bin rfl rfl rfl rfl) rfl rfl (by decide) ?_
          refine wl_nil ?_
          refine fq_then ?_
          refine wc_cond rfl (fun h25 => ?_) (fun h25 => ?_)
          · skip
            have q25 := h25
            try simp only [decide_eq_true_eq, decide_eq_false_iff_not, beq_iff_eq, beq_eq_false_iff_ne, bne_iff_ne, ne_eq, bne_eq_false_iff_eq, Int.not_lt, Int.not_le] at q25
            refine wc_seq ?_
            refine wc_region ?_
            refine wl_q (q_assign rfl rfl) rfl rfl (by decide) ?_
            refine wl_nil ?_
            refine fq_then ?_
            refine wc_ret ?_
            refine fq_then_ret ?_
            refine fq_ret1 rfl rfl (fun w1 H => ?_)
            refine ⟨congrArg (fun z => Ending.returned (Value.int .i64 z)) ?_, H.toBelow (by simp)⟩
            unfold refK
            repeat' split
            all_goals first | rfl | omega | (exfalso; omega)
          · skip
            have q25 := h25
            try simp only [decide_eq_true_eq, decide_eq_false_iff_not, beq_iff_eq, beq_eq_false_iff_ne, bne_iff_ne, ne_eq, bne_eq_false_iff_eq, Int.not_lt, Int.not_le] at q25
            refine wc_skip ?_
            refine fq_then ?_
            refine wc_seq ?_
            refine wc_region ?_
            refine wl_q (q_move rfl rfl) rfl rfl (by decide) ?_
            refine wl_q (q_assign rfl rfl) rfl rfl (by decide) ?_
            refine wl_nil ?_
            refine fq_then ?_
            refine wc_ret ?_
            refine fq_ret1 rfl rfl (fun w1 H => ?_)
            refine ⟨congrArg (fun z => Ending.returned (Value.int .i64 z)) ?_, H.toBelow (by simp)⟩
            unfold refK
            repeat' split
            all_goals first | rfl | omega | (exfalso; omega)
    · skip
      have q10 := h10
      try simp only [decide_eq_true_eq, decide_eq_false_iff_not, beq_iff_eq, beq_eq_false_iff_ne, bne_iff_ne, ne_eq, bne_eq_false_iff_eq, Int.not_lt, Int.not_le] at q10
      refine wc_skip ?_
      refine fq_then ?_
      refine wc_seq ?_
      refine wc_region ?_
      refine wl_q (q_move rfl rfl) rfl rfl (by decide) ?_
      refine wl_q (q_len rfl rfl Tryd.underlying37) rfl rfl (by decide) ?_
      refine wl_q (q_bin rfl rfl rfl rfl) rfl rfl (by decide) ?_
      refine wl_eq (t := 13) rfl (congrArg (Value.int .i64) (wid (by omega) (by omega))) ?_
      refine wl_q (q_move rfl rfl) rfl rfl (by decide) ?_
      refine wl_q (q_bin rfl rfl rfl rfl) rfl rfl (by decide) ?_
      refine wl_eq (t := 15) rfl (congrArg (Value.int .i64) (wid (by omega) (by omega))) ?_
      refine wl_q (q_assign rfl rfl) rfl rfl (by decide) ?_
      refine wl_nil ?_
      refine fq_then ?_
      refine wc_seq ?_
      refine wc_seq ?_
      refine wc_region ?_
      refine wl_q (q_move rfl rfl) rfl rfl (by decide) ?_
      refine wl_q (q_bin rfl rfl rfl rfl) rfl rfl (by decide) ?_
      refine wl_nil ?_
      refine fq_then ?_
      refine wc_cond rfl (fun h17 => ?_) (fun h17 => ?_)
      · skip
        have q17 := h17
        try simp only [decide_eq_true_eq, decide_eq_false_iff_not, beq_iff_eq, beq_eq_false_iff_ne, bne_iff_ne, ne_eq, bne_eq_false_iff_eq, Int.not_lt, Int.not_le] at q17
        refine wc_seq ?_
        refine wc_region ?_
        refine wl_q (q_assign rfl rfl) rfl rfl (by decide) ?_
        refine wl_nil ?_
        refine fq_then ?_
        refine wc_ret ?_
        refine fq_then_ret ?_
        refine fq_ret1 rfl rfl (fun w1 H => ?_)
        refine ⟨congrArg (fun z => Ending.returned (Value.int .i64 z)) ?_, H.toBelow (by simp)⟩
        unfold refK
        repeat' split
        all_goals first | rfl | omega | (exfalso; omega)
      · skip
        have q17 := h17
        try simp only [decide_eq_true_eq, decide_eq_false_iff_not, beq_iff_eq, beq_eq_false_iff_ne, bne_iff_ne, ne_eq, bne_eq_false_iff_eq, Int.not_lt, Int.not_le] at q17
        refine wc_skip ?_
        refine fq_then ?_
        refine wc_seq ?_
        refine wc_region ?_
        refine wl_q (q_move rfl rfl) rfl rfl (by decide) ?_
        refine wl_q (q_move rfl rfl) rfl rfl (by decide) ?_
        refine wl_q (q_indexO rfl rfl (R.hA (by omega)) rfl Tryd.underlying37 Sz3 (by omega) (by omega)) rfl rfl (by decide) ?_
        refine wl_q (q_load rfl rfl Mn3 (R.readsI (by simp) (by omega) (by omega))) rfl rfl (by decide) ?_
        refine wl_q (q_assign rfl rfl) rfl rfl (by decide) ?_
        refine wl_nil ?_
        refine fq_then ?_
        refine wc_seq ?_
        refine wc_seq ?_
        refine wc_region ?_
        refine wl_q (q_move rfl rfl) rfl rfl (by decide) ?_
        refine wl_q (q_bin rfl rfl rfl rfl) rfl rfl (by decide) ?_
        refine wl_nil ?_
        refine fq_then ?_
        refine wc_cond rfl (fun h23 => ?_) (fun h23 => ?_)
        · skip
          have q23 := h23
          try simp only [decide_eq_true_eq, decide_eq_false_iff_not, beq_iff_eq, beq_eq_false_iff_ne, bne_iff_ne, ne_eq, bne_eq_false_iff_eq, Int.not_lt, Int.not_le] at q23
          refine wc_seq ?_
          refine wc_region ?_
          refine wl_q (q_assign rfl rfl) rfl rfl (by decide) ?_
          refine wl_nil ?_
          refine fq_then ?_
          refine wc_ret ?_
          refine fq_then_ret ?_
          refine fq_ret1 rfl rfl (fun w1 H => ?_)
          refine ⟨congrArg (fun z => Ending.returned (Value.int .i64 z)) ?_, H.toBelow (by simp)⟩
          unfold refK
          repeat' split
          all_goals first | rfl | omega | (exfalso; omega)
        · skip
          have q23 := h23
          try simp only [decide_eq_true_eq, decide_eq_false_iff_not, beq_iff_eq, beq_eq_false_iff_ne, bne_iff_ne, ne_eq, bne_eq_false_iff_eq, Int.not_lt, Int.not_le] at q23
          refine wc_skip ?_
          refine fq_then ?_
          refine wc_seq ?_
          refine wc_seq ?_
          refine wc_region ?_
          refine wl_q (q_move rfl rfl) rfl rfl (by decide) ?_
          refine wl_q (q_bin rfl rfl rfl rfl) rfl rfl (by decide) ?_
          refine wl_nil ?_
          refine fq_then ?_
          refine wc_cond rfl (fun h25 => ?_) (fun h25 => ?_)
          · skip
            have q25 := h25
            try simp only [decide_eq_true_eq, decide_eq_false_iff_not, beq_iff_eq, beq_eq_false_iff_ne, bne_iff_ne, ne_eq, bne_eq_false_iff_eq, Int.not_lt, Int.not_le] at q25
            refine wc_seq ?_
            refine wc_region ?_
            refine wl_q (q_assign rfl rfl) rfl rfl (by decide) ?_
            refine wl_nil ?_
            refine fq_then ?_
            refine wc_ret ?_
            refine fq_then_ret ?_
            refine fq_ret1 rfl rfl (fun w1 H => ?_)
            refine ⟨congrArg (fun z => Ending.returned (Value.int .i64 z)) ?_, H.toBelow (by simp)⟩
            unfold refK
            repeat' split
            all_goals first | rfl | omega | (exfalso; omega)
          · skip
            have q25 := h25
            try simp only [decide_eq_true_eq, decide_eq_false_iff_not, beq_iff_eq, beq_eq_false_iff_ne, bne_iff_ne, ne_eq, bne_eq_false_iff_eq, Int.not_lt, Int.not_le] at q25
            refine wc_skip ?_
            refine fq_then ?_
            refine wc_seq ?_
            refine wc_region ?_
            refine wl_q (q_move rfl rfl) rfl rfl (by decide) ?_
            refine wl_q (q_assign rfl rfl) rfl rfl (by decide) ?_
            refine wl_nil ?_
            refine fq_then ?_
            refine wc_ret ?_
            refine fq_ret1 rfl rfl (fun w1 H => ?_)
            refine ⟨congrArg (fun z => Ending.returned (Value.int .i64 z)) ?_, H.toBelow (by simp)⟩
            unfold refK
            repeat' split
            all_goals first | rfl | omega | (exfalso; omega)
  · skip
    have q8 := h8
    try simp only [decide_eq_true_eq, decide_eq_false_iff_not, beq_iff_eq, beq_eq_false_iff_ne, bne_iff_ne, ne_eq, bne_eq_false_iff_eq, Int.not_lt, Int.not_le] at q8
    refine wc_skip ?_
    refine fq_then ?_
    refine wc_seq ?_
    refine wc_seq ?_
    refine wc_region ?_
    refine wl_q (q_move rfl rfl) rfl rfl (by decide) ?_
    refine wl_q (q_bin rfl rfl rfl rfl) rfl rfl (by decide) ?_
    refine wl_nil ?_
    refine fq_then ?_
    refine wc_cond rfl (fun h10 => ?_) (fun h10 => ?_)
    · skip
      have q10 := h10
      try simp only [decide_eq_true_eq, decide_eq_false_iff_not, beq_iff_eq, beq_eq_false_iff_ne, bne_iff_ne, ne_eq, bne_eq_false_iff_eq, Int.not_lt, Int.not_le] at q10
      refine wc_region ?_
      refine wl_q (q_assign rfl rfl) rfl rfl (by decide) ?_
      refine wl_nil ?_
      refine fq_then ?_
      refine wc_seq ?_
      refine wc_region ?_
      refine wl_q (q_move rfl rfl) rfl rfl (by decide) ?_
      refine wl_q (q_len rfl rfl Tryd.underlying37) rfl rfl (by decide) ?_
      refine wl_q (q_bin rfl rfl rfl rfl) rfl rfl (by decide) ?_
      refine wl_eq (t := 13) rfl (congrArg (Value.int .i64) (wid (by omega) (by omega))) ?_
      refine wl_q (q_move rfl rfl) rfl rfl (by decide) ?_
      refine wl_q (q_bin rfl rfl rfl rfl) rfl rfl (by decide) ?_
      refine wl_eq (t := 15) rfl (congrArg (Value.int .i64) (wid (by omega) (by omega))) ?_
      refine wl_q (q_assign rfl rfl) rfl rfl (by decide) ?_
      refine wl_nil ?_
      refine fq_then ?_
      refine wc_seq ?_
      refine wc_seq ?_
      refine wc_region ?_
      refine wl_q (q_move rfl rfl) rfl rfl (by decide) ?_
      refine wl_q (q_bin rfl rfl rfl rfl) rfl rfl (by decide) ?_
      refine wl_nil ?_
      refine fq_then ?_
      refine wc_cond rfl (fun h17 => ?_) (fun h17 => ?_)
      · skip
        have q17 := h17
        try simp only [decide_eq_true_eq, decide_eq_false_iff_not, beq_iff_eq, beq_eq_false_iff_ne, bne_iff_ne, ne_eq, bne_eq_false_iff_eq, Int.not_lt, Int.not_le] at q17
        refine wc_seq ?_
        refine wc_region ?_
        refine wl_q (q_assign rfl rfl) rfl rfl (by decide) ?_
        refine wl_nil ?_
        refine fq_then ?_
        refine wc_ret ?_
        refine fq_then_ret ?_
        refine fq_ret1 rfl rfl (fun w1 H => ?_)
        refine ⟨congrArg (fun z => Ending.returned (Value.int .i64 z)) ?_, H.toBelow (by simp)⟩
        unfold refK
        repeat' split
        all_goals first | rfl | omega | (exfalso; omega)
      · skip
        have q17 := h17
        try simp only [decide_eq_true_eq, decide_eq_false_iff_not, beq_iff_eq, beq_eq_false_iff_ne, bne_iff_ne, ne_eq, bne_eq_false_iff_eq, Int.not_lt, Int.not_le] at q17
        refine wc_skip ?_
        refine fq_then ?_
        refine wc_seq ?_
        refine wc_region ?_
        refine wl_q (q_move rfl rfl) rfl rfl (by decide) ?_
        refine wl_q (q_move rfl rfl) rfl rfl (by decide) ?_
        refine wl_q (q_indexO rfl rfl (R.hA (by omega)) rfl Tryd.underlying37 Sz3 (by omega) (by omega)) rfl rfl (by decide) ?_
        refine wl_q (q_load rfl rfl Mn3 (R.readsI (by simp) (by omega) (by omega))) rfl rfl (by decide) ?_
        refine wl_q (q_assign rfl rfl) rfl rfl (by decide) ?_
        refine wl_nil ?_
        refine fq_then ?_
        refine wc_seq ?_
        refine wc_seq ?_
        refine wc_region ?_
        refine wl_q (q_move rfl rfl) rfl rfl (by decide) ?_
        refine wl_q (q_bin rfl rfl rfl rfl) rfl rfl (by decide) ?_
        refine wl_nil ?_
        refine fq_then ?_
        refine wc_cond rfl (fun h23 => ?_) (fun h23 => ?_)
        · skip
          have q23 := h23
          try simp only [decide_eq_true_eq, decide_eq_false_iff_not, beq_iff_eq, beq_eq_false_iff_ne, bne_iff_ne, ne_eq, bne_eq_false_iff_eq, Int.not_lt, Int.not_le] at q23
          refine wc_seq ?_
          refine wc_region ?_
          refine wl_q (q_assign rfl rfl) rfl rfl (by decide) ?_
          refine wl_nil ?_
          refine fq_then ?_
          refine wc_ret ?_
          refine fq_then_ret ?_
          refine fq_ret1 rfl rfl (fun w1 H => ?_)
          refine ⟨congrArg (fun z => Ending.returned (Value.int .i64 z)) ?_, H.toBelow (by simp)⟩
          unfold refK
          repeat' split
          all_goals first | rfl | omega | (exfalso; omega)
        · skip
          have q23 := h23
          try simp only [decide_eq_true_eq, decide_eq_false_iff_not, beq_iff_eq, beq_eq_false_iff_ne, bne_iff_ne, ne_eq, bne_eq_false_iff_eq, Int.not_lt, Int.not_le] at q23
          refine wc_skip ?_
          refine fq_then ?_
          refine wc_seq ?_
          refine wc_seq ?_
          refine wc_region ?_
          refine wl_q (q_move rfl rfl) rfl rfl (by decide) ?_
          refine wl_q (q_bin rfl rfl rfl rfl) rfl rfl (by decide) ?_
          refine wl_nil ?_
          refine fq_then ?_
          refine wc_cond rfl (fun h25 => ?_) (fun h25 => ?_)
          · skip
            have q25 := h25
            try simp only [decide_eq_true_eq, decide_eq_false_iff_not, beq_iff_eq, beq_eq_false_iff_ne, bne_iff_ne, ne_eq, bne_eq_false_iff_eq, Int.not_lt, Int.not_le] at q25
            refine wc_seq ?_
            refine wc_region ?_
            refine wl_q (q_assign rfl rfl) rfl rfl (by decide) ?_
            refine wl_nil ?_
            refine fq_then ?_
            refine wc_ret ?_
            refine fq_then_ret ?_
            refine fq_ret1 rfl rfl (fun w1 H => ?_)
            refine ⟨congrArg (fun z => Ending.returned (Value.int .i64 z)) ?_, H.toBelow (by simp)⟩
            unfold refK
            repeat' split
            all_goals first | rfl | omega | (exfalso; omega)
          · skip
            have q25 := h25
            try simp only [decide_eq_true_eq, decide_eq_false_iff_not, beq_iff_eq, beq_eq_false_iff_ne, bne_iff_ne, ne_eq, bne_eq_false_iff_eq, Int.not_lt, Int.not_le] at q25
            refine wc_skip ?_
            refine fq_then ?_
            refine wc_seq ?_
            refine wc_region ?_
            refine wl_q (q_move rfl rfl) rfl rfl (by decide) ?_
            refine wl_q (q_assign rfl rfl) rfl rfl (by decide) ?_
            refine wl_nil ?_
            refine fq_then ?_
            refine wc_ret ?_
            refine fq_ret1 rfl rfl (fun w1 H => ?_)
            refine ⟨congrArg (fun z => Ending.returned (Value.int .i64 z)) ?_, H.toBelow (by simp)⟩
            unfold refK
            repeat' split
            all_goals first | rfl | omega | (exfalso; omega)
    · skip
      have q10 := h10
      try simp only [decide_eq_true_eq, decide_eq_false_iff_not, beq_iff_eq, beq_eq_false_iff_ne, bne_iff_ne, ne_eq, bne_eq_false_iff_eq, Int.not_lt, Int.not_le] at q10
      refine wc_skip ?_
      refine fq_then ?_
      refine wc_seq ?_
      refine wc_region ?_
      refine wl_q (q_move rfl rfl) rfl rfl (by decide) ?_
      refine wl_q (q_len rfl rfl Tryd.underlying37) rfl rfl (by decide) ?_
      refine wl_q (q_bin rfl rfl rfl rfl) rfl rfl (by decide) ?_
      refine wl_eq (t := 13) rfl (congrArg (Value.int .i64) (wid (by omega) (by omega))) ?_
      refine wl_q (q_move rfl rfl) rfl rfl (by decide) ?_
      refine wl_q (q_bin rfl rfl rfl rfl) rfl rfl (by decide) ?_
      refine wl_eq (t := 15) rfl (congrArg (Value.int .i64) (wid (by omega) (by omega))) ?_
      refine wl_q (q_assign rfl rfl) rfl rfl (by decide) ?_
      refine wl_nil ?_
      refine fq_then ?_
      refine wc_seq ?_
      refine wc_seq ?_
      refine wc_region ?_
      refine wl_q (q_move rfl rfl) rfl rfl (by decide) ?_
      refine wl_q (q_bin rfl rfl rfl rfl) rfl rfl (by decide) ?_
      refine wl_nil ?_
      refine fq_then ?_
      refine wc_cond rfl (fun h17 => ?_) (fun h17 => ?_)
      · skip
        have q17 := h17
        try simp only [decide_eq_true_eq, decide_eq_false_iff_not, beq_iff_eq, beq_eq_false_iff_ne, bne_iff_ne, ne_eq, bne_eq_false_iff_eq, Int.not_lt, Int.not_le] at q17
        refine wc_seq ?_
        refine wc_region ?_
        refine wl_q (q_assign rfl rfl) rfl rfl (by decide) ?_
        refine wl_nil ?_
        refine fq_then ?_
        refine wc_ret ?_
        refine fq_then_ret ?_
        refine fq_ret1 rfl rfl (fun w1 H => ?_)
        refine ⟨congrArg (fun z => Ending.returned (Value.int .i64 z)) ?_, H.toBelow (by simp)⟩
        unfold refK
        repeat' split
        all_goals first | rfl | omega | (exfalso; omega)
      · skip
        have q17 := h17
        try simp only [decide_eq_true_eq, decide_eq_false_iff_not, beq_iff_eq, beq_eq_false_iff_ne, bne_iff_ne, ne_eq, bne_eq_false_iff_eq, Int.not_lt, Int.not_le] at q17
        refine wc_skip ?_
        refine fq_then ?_
        refine wc_seq ?_
        refine wc_region ?_
        refine wl_q (q_move rfl rfl) rfl rfl (by decide) ?_
        refine wl_q (q_move rfl rfl) rfl rfl (by decide) ?_
        refine wl_q (q_indexO rfl rfl (R.hA (by omega)) rfl Tryd.underlying37 Sz3 (by omega) (by omega)) rfl rfl (by decide) ?_
        refine wl_q (q_load rfl rfl Mn3 (R.readsI (by simp) (by omega) (by omega))) rfl rfl (by decide) ?_
        refine wl_q (q_assign rfl rfl) rfl rfl (by decide) ?_
        refine wl_nil ?_
        refine fq_then ?_
        refine wc_seq ?_
        refine wc_seq ?_
        refine wc_region ?_
        refine wl_q (q_move rfl rfl) rfl rfl (by decide) ?_
        refine wl_q (q_bin rfl rfl rfl rfl) rfl rfl (by decide) ?_
        refine wl_nil ?_
        refine fq_then ?_
        refine wc_cond rfl (fun h23 => ?_) (fun h23 => ?_)
        · skip
          have q23 := h23
          try simp only [decide_eq_true_eq, decide_eq_false_iff_not, beq_iff_eq, beq_eq_false_iff_ne, bne_iff_ne, ne_eq, bne_eq_false_iff_eq, Int.not_lt, Int.not_le] at q23
          refine wc_seq ?_
          refine wc_region ?_
          refine wl_q (q_assign rfl rfl) rfl rfl (by decide) ?_
          refine wl_nil ?_
          refine fq_then ?_
          refine wc_ret ?_
          refine fq_then_ret ?_
          refine fq_ret1 rfl rfl (fun w1 H => ?_)
          refine ⟨congrArg (fun z => Ending.returned (Value.int .i64 z)) ?_, H.toBelow (by simp)⟩
          unfold refK
          repeat' split
          all_goals first | rfl | omega | (exfalso; omega)
        · skip
          have q23 := h23
          try simp only [decide_eq_true_eq, decide_eq_false_iff_not, beq_iff_eq, beq_eq_false_iff_ne, bne_iff_ne, ne_eq, bne_eq_false_iff_eq, Int.not_lt, Int.not_le] at q23
          refine wc_skip ?_
          refine fq_then ?_
          refine wc_seq ?_
          refine wc_seq ?_
          refine wc_region ?_
          refine wl_q (q_move rfl rfl) rfl rfl (by decide) ?_
          refine wl_q (q_bin rfl rfl rfl rfl) rfl rfl (by decide) ?_
          refine wl_nil ?_
          refine fq_then ?_
          refine wc_cond rfl (fun h25 => ?_) (fun h25 => ?_)
          · skip
            have q25 := h25
            try simp only [decide_eq_true_eq, decide_eq_false_iff_not, beq_iff_eq, beq_eq_false_iff_ne, bne_iff_ne, ne_eq, bne_eq_false_iff_eq, Int.not_lt, Int.not_le] at q25
            refine wc_seq ?_
            refine wc_region ?_
            refine wl_q (q_assign rfl rfl) rfl rfl (by decide) ?_
            refine wl_nil ?_
            refine fq_then ?_
            refine wc_ret ?_
            refine fq_then_ret ?_
            refine fq_ret1 rfl rfl (fun w1 H => ?_)
            refine ⟨congrArg (fun z => Ending.returned (Value.int .i64 z)) ?_, H.toBelow (by simp)⟩
            unfold refK
            repeat' split
            all_goals first | rfl | omega | (exfalso; omega)
          · skip
            have q25 := h25
            try simp only [decide_eq_true_eq, decide_eq_false_iff_not, beq_iff_eq, beq_eq_false_iff_ne, bne_iff_ne, ne_eq, bne_eq_false_iff_eq, Int.not_lt, Int.not_le] at q25
            refine wc_skip ?_
            refine fq_then ?_
            refine wc_seq ?_
            refine wc_region ?_
            refine wl_q (q_move rfl rfl) rfl rfl (by decide) ?_
            refine wl_q (q_assign rfl rfl) rfl rfl (by decide) ?_
            refine wl_nil ?_
            refine fq_then ?_
            refine wc_ret ?_
            refine fq_ret1 rfl rfl (fun w1 H => ?_)
            refine ⟨congrArg (fun z => Ending.returned (Value.int .i64 z)) ?_, H.toBelow (by simp)⟩
            unfold refK
            repeat' split
            all_goals first | rfl | omega | (exfalso; omega)

theorem may2_calls (f t : Int) (w : World) : Calls Tryd.prog 32 #[.int .i64 f, .int .i64 t] w fun e w' => e = .returned (.bool (mayB f t)) ∧ Below w.heap.size w w' := by
  refine enter (w0 := w) (hp := [old w]) (env := [(0, .int .i64 f), (1, .int .i64 t)]) Tryd.func32 rfl 77 rfl (by simp) rfl (HeapOK.start _) ?_
  refine wc_seq ?_
  refine wc_region ?_
  refine wl_q (q_assign rfl rfl) rfl rfl (by decide) ?_
  refine wl_nil ?_
  refine fq_then ?_
  refine wc_seq ?_
  refine wc_seq ?_
  refine wc_region ?_
  refine wl_q (q_move rfl rfl) rfl rfl (by decide) ?_
  refine wl_q (q_bin rfl rfl rfl rfl) rfl rfl (by decide) ?_
  refine wl_q (q_move rfl rfl) rfl rfl (by decide) ?_
  refine wl_split (t := 7) rfl (fun h7 => ?_) (fun h7 => ?_)
  · skip
    have q7 := h7
    try simp only [decide_eq_true_eq, decide_eq_false_iff_not, beq_iff_eq, beq_eq_false_iff_ne, bne_iff_ne, ne_eq, bne_eq_false_iff_eq, Int.not_lt, Int.not_le] at q7
    refine wl_skip (b := true) rfl rfl rfl rfl (by decide) ?_
    refine wl_skip (b := true) rfl rfl rfl rfl (by decide) ?_
    refine wl_q (q_pick rfl rfl rfl) rfl rfl (by decide) ?_
    refine wl_q (q_move rfl rfl) rfl rfl (by decide) ?_
    refine wl_skip (b := true) rfl rfl rfl rfl (by decide) ?_
    refine wl_skip (b := true) rfl rfl rfl rfl (by decide) ?_
    refine wl_q (q_pick rfl rfl rfl) rfl rfl (by decide) ?_
    refine wl_q (q_move rfl rfl) rfl rfl (by decide) ?_
    refine wl_skip (b := true) rfl rfl rfl rfl (by decide) ?_
    refine wl_skip (b := true) rfl rfl rfl rfl (by decide) ?_
    refine wl_q (q_pick rfl rfl rfl) rfl rfl (by decide) ?_
    refine wl_nil ?_
    refine fq_then ?_
    refine wc_true rfl ?_
    refine wc_seq ?_
    refine wc_region ?_
    refine wl_q (q_assign rfl rfl) rfl rfl (by decide) ?_
    refine wl_nil ?_
    refine fq_then ?_
    refine wc_ret ?_
    refine fq_then_ret ?_
    refine fq_ret1 rfl rfl (fun w1 H => ?_)
    refine ⟨congrArg (fun z => Ending.returned (Value.bool z)) ?_, H.toBelow (by simp)⟩
    rw [refMay_eq]
    unfold refMay
    repeat' split
    all_goals first | rfl | (exfalso; omega) | (simp; omega)
  · skip
    have q7 := h7
    try simp only [decide_eq_true_eq, decide_eq_false_iff_not, beq_iff_eq, beq_eq_false_iff_ne, bne_iff_ne, ne_eq, bne_eq_false_iff_eq, Int.not_lt, Int.not_le] at q7
    refine wl_want (b := false) (q_move rfl rfl) rfl rfl rfl rfl (by decide) ?_
    refine wl_want (b := false) (q_bin rfl rfl rfl rfl) rfl rfl rfl rfl (by decide) ?_
    refine wl_q (q_pick rfl rfl rfl) rfl rfl (by decide) ?_
    refine wl_q (q_move rfl rfl) rfl rfl (by decide) ?_
    refine wl_split (t := 11) rfl (fun h11 => ?_) (fun h11 => ?_)
    · skip
      have q11 := h11
      try simp only [decide_eq_true_eq, decide_eq_false_iff_not, beq_iff_eq, beq_eq_false_iff_ne, bne_iff_ne, ne_eq, bne_eq_false_iff_eq, Int.not_lt, Int.not_le] at q11
      refine wl_skip (b := true) rfl rfl rfl rfl (by decide) ?_
      refine wl_skip (b := true) rfl rfl rfl rfl (by decide) ?_
      refine wl_q (q_pick rfl rfl rfl) rfl rfl (by decide) ?_
      refine wl_q (q_move rfl rfl) rfl rfl (by decide) ?_
      refine wl_skip (b := true) rfl rfl rfl rfl (by decide) ?_
      refine wl_skip (b := true) rfl rfl rfl rfl (by decide) ?_
      refine wl_q (q_pick rfl rfl rfl) rfl rfl (by decide) ?_
      refine wl_nil ?_
      refine fq_then ?_
      refine wc_true rfl ?_
      refine wc_seq ?_
      refine wc_region ?_
      refine wl_q (q_assign rfl rfl) rfl rfl (by decide) ?_
      refine wl_nil ?_
      refine fq_then ?_
      refine wc_ret ?_
      refine fq_then_ret ?_
      refine fq_ret1 rfl rfl (fun w1 H => ?_)
      refine ⟨congrArg (fun z => Ending.returned (Value.bool z)) ?_, H.toBelow (by simp)⟩
      rw [refMay_eq]
      unfold refMay
      repeat' split
      all_goals first | rfl | (exfalso; omega) | (simp; omega)
    · skip
      have q11 := h11
      try simp only [decide_eq_true_eq, decide_eq_false_iff_not, beq_iff_eq, beq_eq_false_iff_ne, bne_iff_ne, ne_eq, bne_eq_false_iff_eq, Int.not_lt, Int.not_le] at q11
      refine wl_want (b := false) (q_move rfl rfl) rfl rfl rfl rfl (by decide) ?_
      refine wl_want (b := false) (q_bin rfl rfl rfl rfl) rfl rfl rfl rfl (by decide) ?_
      refine wl_q (q_pick rfl rfl rfl) rfl rfl (by decide) ?_
      refine wl_q (q_move rfl rfl) rfl rfl (by decide) ?_
      refine wl_split (t := 15) rfl (fun h15 => ?_) (fun h15 => ?_)
      · skip
        have q15 := h15
        try simp only [decide_eq_true_eq, decide_eq_false_iff_not, beq_iff_eq, beq_eq_false_iff_ne, bne_iff_ne, ne_eq, bne_eq_false_iff_eq, Int.not_lt, Int.not_le] at q15
        refine wl_skip (b := true) rfl rfl rfl rfl (by decide) ?_
        refine wl_skip (b := true) rfl rfl rfl rfl (by decide) ?_
        refine wl_q (q_pick rfl rfl rfl) rfl rfl (by decide) ?_
        refine wl_nil ?_
        refine fq_then ?_
        refine wc_true rfl ?_
        refine wc_seq ?_
        refine wc_region ?_
        refine wl_q (q_assign rfl rfl) rfl rfl (by decide) ?_
        refine wl_nil ?_
        refine fq_then ?_
        refine wc_ret ?_
        refine fq_then_ret ?_
        refine fq_ret1 rfl rfl (fun w1 H => ?_)
        refine ⟨congrArg (fun z => Ending.returned (Value.bool z)) ?_, H.toBelow (by simp)⟩
        rw [refMay_eq]
        unfold refMay
        repeat' split
        all_goals first | rfl | (exfalso; omega) | (simp; omega)
      · skip
        have q15 := h15
        try simp only [decide_eq_true_eq, decide_eq_false_iff_not, beq_iff_eq, beq_eq_false_iff_ne, bne_iff_ne, ne_eq, bne_eq_false_iff_eq, Int.not_lt, Int.not_le] at q15
        refine wl_want (b := false) (q_move rfl rfl) rfl rfl rfl rfl (by decide) ?_
        refine wl_want (b := false) (q_bin rfl rfl rfl rfl) rfl rfl rfl rfl (by decide) ?_
        refine wl_q (q_pick rfl rfl rfl) rfl rfl (by decide) ?_
        refine wl_nil ?_
        refine fq_then ?_
        refine wc_cond rfl (fun h18 => ?_) (fun h18 => ?_)
        · skip
          have q18 := h18
          try simp only [decide_eq_true_eq, decide_eq_false_iff_not, beq_iff_eq, beq_eq_false_iff_ne, bne_iff_ne, ne_eq, bne_eq_false_iff_eq, Int.not_lt, Int.not_le] at q18
          refine wc_seq ?_
          refine wc_region ?_
          refine wl_q (q_assign rfl rfl) rfl rfl (by decide) ?_
          refine wl_nil ?_
          refine fq_then ?_
          refine wc_ret ?_
          refine fq_then_ret ?_
          refine fq_ret1 rfl rfl (fun w1 H => ?_)
          refine ⟨congrArg (fun z => Ending.returned (Value.bool z)) ?_, H.toBelow (by simp)⟩
          rw [refMay_eq]
          unfold refMay
          repeat' split
          all_goals first | rfl | (exfalso; omega) | (simp; omega)
        · skip
          have q18 := h18
          try simp only [decide_eq_true_eq, decide_eq_false_iff_not, beq_iff_eq, beq_eq_false_iff_ne, bne_iff_ne, ne_eq, bne_eq_false_iff_eq, Int.not_lt, Int.not_le] at q18
          refine wc_skip ?_
          refine fq_then ?_
          refine wc_seq ?_
          refine wc_seq ?_
          refine wc_region ?_
          refine wl_q (q_move rfl rfl) rfl rfl (by decide) ?_
          refine wl_q (q_move rfl rfl) rfl rfl (by decide) ?_
          refine wl_q (q_bin rfl rfl rfl rfl) rfl rfl (by decide) ?_
          refine wl_q (q_move rfl rfl) rfl rfl (by decide) ?_
          refine wl_split (t := 22) rfl (fun h22 => ?_) (fun h22 => ?_)
          · skip
            have q22 := h22
            try simp only [decide_eq_true_eq, decide_eq_false_iff_not, beq_iff_eq, beq_eq_false_iff_ne, bne_iff_ne, ne_eq, bne_eq_false_iff_eq, Int.not_lt, Int.not_le] at q22
            refine wl_skip (b := true) rfl rfl rfl rfl (by decide) ?_
            refine wl_skip (b := true) rfl rfl rfl rfl (by decide) ?_
            refine wl_q (q_pick rfl rfl rfl) rfl rfl (by decide) ?_
            refine wl_nil ?_
            refine fq_then ?_
            refine wc_true rfl ?_
            refine wc_seq ?_
            refine wc_region ?_
            refine wl_q (q_assign rfl rfl) rfl rfl (by decide) ?_
            refine wl_nil ?_
            refine fq_then ?_
            refine wc_ret ?_
            refine fq_then_ret ?_
            refine fq_ret1 rfl rfl (fun w1 H => ?_)
            refine ⟨congrArg (fun z => Ending.returned (Value.bool z)) ?_, H.toBelow (by simp)⟩
            rw [refMay_eq]
            unfold refMay
            repeat' split
            all_goals first | rfl | (exfalso; omega) | (simp; omega)
          · skip
            have q22 := h22
            try simp only [decide_eq_true_eq, decide_eq_false_iff_not, beq_iff_eq, beq_eq_false_iff_ne, bne_iff_ne, ne_eq, bne_eq_false_iff_eq, Int.not_lt, Int.not_le] at q22
            refine wl_want (b := false) (q_move rfl rfl) rfl rfl rfl rfl (by decide) ?_
            refine wl_want (b := false) (q_bin rfl rfl rfl rfl) rfl rfl rfl rfl (by decide) ?_
            refine wl_q (q_pick rfl rfl rfl) rfl rfl (by decide) ?_
            refine wl_nil ?_
            refine fq_then ?_
            refine wc_cond rfl (fun h25 => ?_) (fun h25 => ?_)
            · skip
              have q25 := h25
              try simp only [decide_eq_true_eq, decide_eq_false_iff_not, beq_iff_eq, beq_eq_false_iff_ne, bne_iff_ne, ne_eq, bne_eq_false_iff_eq, Int.not_lt, Int.not_le] at q25
              refine wc_seq ?_
              refine wc_region ?_
              refine wl_q (q_assign rfl rfl) rfl rfl (by decide) ?_
              refine wl_nil ?_
              refine fq_then ?_
              refine wc_ret ?_
              refine fq_then_ret ?_
              refine fq_ret1 rfl rfl (fun w1 H => ?_)
              refine ⟨congrArg (fun z => Ending.returned (Value.bool z)) ?_, H.toBelow (by simp)⟩
              rw [refMay_eq]
              unfold refMay
              repeat' split
              all_goals first | rfl | (exfalso; omega) | (simp; omega)
            · skip
              have q25 := h25
              try simp only [decide_eq_true_eq, decide_eq_false_iff_not, beq_iff_eq, beq_eq_false_iff_ne, bne_iff_ne, ne_eq, bne_eq_false_iff_eq, Int.not_lt, Int.not_le] at q25
              refine wc_skip ?_
              refine fq_then ?_
              refine wc_seq ?_
              refine wc_seq ?_
              refine wc_region ?_
              refine wl_q (q_move rfl rfl) rfl rfl (by decide) ?_
              refine wl_nil ?_
              refine fq_then ?_
              refine wc_block ?_
              refine wc_seq ?_
              refine wc_region ?_
              refine wl_q (q_bin rfl rfl rfl rfl) rfl rfl (by decide) ?_
              refine wl_q (q_assign rfl rfl) rfl rfl (by decide) ?_
              refine wl_nil ?_
              refine fq_then ?_
              refine wc_cond rfl (fun h27 => ?_) (fun h27 => ?_)
              · skip
                have q27 := h27
                try simp only [decide_eq_true_eq, decide_eq_false_iff_not, beq_iff_eq, beq_eq_false_iff_ne, bne_iff_ne, ne_eq, bne_eq_false_iff_eq, Int.not_lt, Int.not_le] at q27
                refine wc_seq ?_
                refine wc_region ?_
                refine wl_q (q_move rfl rfl) rfl rfl (by decide) ?_
                refine wl_q (q_bin rfl rfl rfl rfl) rfl rfl (by decide) ?_
                refine wl_q (q_assign rfl rfl) rfl rfl (by decide) ?_
                refine wl_nil ?_
                refine fq_then ?_
                refine wc_ret ?_
                refine fq_block_ret ?_
                refine fq_then_ret ?_
                refine fq_ret1 rfl rfl (fun w1 H => ?_)
                refine ⟨congrArg (fun z => Ending.returned (Value.bool z)) ?_, H.toBelow (by simp)⟩
                rw [refMay_eq]
                unfold refMay
                repeat' split
                all_goals first | rfl | (exfalso; omega) | (simp; omega)
              · skip
                have q27 := h27
                try simp only [decide_eq_true_eq, decide_eq_false_iff_not, beq_iff_eq, beq_eq_false_iff_ne, bne_iff_ne, ne_eq, bne_eq_false_iff_eq, Int.not_lt, Int.not_le] at q27
                refine wc_seq ?_
                refine wc_region ?_
                refine wl_q (q_bin rfl rfl rfl rfl) rfl rfl (by decide) ?_
                refine wl_q (q_assign rfl rfl) rfl rfl (by decide) ?_
                refine wl_nil ?_
                refine fq_then ?_
                refine wc_cond rfl (fun h31 => ?_) (fun h31 => ?_)
                · skip
                  have q31 := h31
                  try simp only [decide_eq_true_eq, decide_eq_false_iff_not, beq_iff_eq, beq_eq_false_iff_ne, bne_iff_ne, ne_eq, bne_eq_false_iff_eq, Int.not_lt, Int.not_le] at q31
                  refine wc_seq ?_
                  refine wc_region ?_
                  refine wl_q (q_move rfl rfl) rfl rfl (by decide) ?_
                  refine wl_q (q_bin rfl rfl rfl rfl) rfl rfl (by decide) ?_
                  refine wl_q (q_move rfl rfl) rfl rfl (by decide) ?_
                  refine wl_split (t := 35) rfl (fun h35 => ?_) (fun h35 => ?_)
                  · skip
                    have q35 := h35
                    try simp only [decide_eq_true_eq, decide_eq_false_iff_not, beq_iff_eq, beq_eq_false_iff_ne, bne_iff_ne, ne_eq, bne_eq_false_iff_eq, Int.not_lt, Int.not_le] at q35
                    refine wl_skip (b := true) rfl rfl rfl rfl (by decide) ?_
                    refine wl_skip (b := true) rfl rfl rfl rfl (by decide) ?_
                    refine wl_q (q_pick rfl rfl rfl) rfl rfl (by decide) ?_
                    refine wl_q (q_assign rfl rfl) rfl rfl (by decide) ?_
                    refine wl_nil ?_
                    refine fq_then ?_
                    refine wc_ret ?_
                    refine fq_block_ret ?_
                    refine fq_then_ret ?_
                    refine fq_ret1 rfl rfl (fun w1 H => ?_)
                    refine ⟨congrArg (fun z => Ending.returned (Value.bool z)) ?_, H.toBelow (by simp)⟩
                    rw [refMay_eq]
                    unfold refMay
                    repeat' split
                    all_goals first | rfl | (exfalso; omega) | (simp; omega)
                  · skip
                    have q35 := h35
                    try simp only [decide_eq_true_eq, decide_eq_false_iff_not, beq_iff_eq, beq_eq_false_iff_ne, bne_iff_ne, ne_eq, bne_eq_false_iff_eq, Int.not_lt, Int.not_le] at q35
                    refine wl_want (b := false) (q_move rfl rfl) rfl rfl rfl rfl (by decide) ?_
                    refine wl_want (b := false) (q_bin rfl rfl rfl rfl) rfl rfl rfl rfl (by decide) ?_
                    refine wl_q (q_pick rfl rfl rfl) rfl rfl (by decide) ?_
                    refine wl_q (q_assign rfl rfl) rfl rfl (by decide) ?_
                    refine wl_nil ?_
                    refine fq_then ?_
                    refine wc_ret ?_
                    refine fq_block_ret ?_
                    refine fq_then_ret ?_
                    refine fq_ret1 rfl rfl (fun w1 H => ?_)
                    refine ⟨congrArg (fun z => Ending.returned (Value.bool z)) ?_, H.toBelow (by simp)⟩
                    rw [refMay_eq]
                    unfold refMay
                    repeat' split
                    all_goals first | rfl | (exfalso; omega) | (simp; omega)
                · skip
                  have q31 := h31
                  try simp only [decide_eq_true_eq, decide_eq_false_iff_not, beq_iff_eq, beq_eq_false_iff_ne, bne_iff_ne, ne_eq, bne_eq_false_iff_eq, Int.not_lt, Int.not_le] at q31
                  refine wc_seq ?_
                  refine wc_region ?_
                  refine wl_q (q_bin rfl rfl rfl rfl) rfl rfl (by decide) ?_
                  refine wl_q (q_assign rfl rfl) rfl rfl (by decide) ?_
                  refine wl_nil ?_
                  refine fq_then ?_
                  refine wc_cond rfl (fun h39 => ?_) (fun h39 => ?_)
                  · skip
                    have q39 := h39
                    try simp only [decide_eq_true_eq, decide_eq_false_iff_not, beq_iff_eq, beq_eq_false_iff_ne, bne_iff_ne, ne_eq, bne_eq_false_iff_eq, Int.not_lt, Int.not_le] at q39
                    refine wc_seq ?_
                    refine wc_region ?_
                    refine wl_q (q_move rfl rfl) rfl rfl (by decide) ?_
                    refine wl_q (q_bin rfl rfl rfl rfl) rfl rfl (by decide) ?_
                    refine wl_q (q_move rfl rfl) rfl rfl (by decide) ?_
                    refine wl_split (t := 43) rfl (fun h43 => ?_) (fun h43 => ?_)
                    · skip
                      have q43 := h43
                      try simp only [decide_eq_true_eq, decide_eq_false_iff_not, beq_iff_eq, beq_eq_false_iff_ne, bne_iff_ne, ne_eq, bne_eq_false_iff_eq, Int.not_lt, Int.not_le] at q43
                      refine wl_skip (b := true) rfl rfl rfl rfl (by decide) ?_
                      refine wl_skip (b := true) rfl rfl rfl rfl (by decide) ?_
                      refine wl_q (q_pick rfl rfl rfl) rfl rfl (by decide) ?_
                      refine wl_q (q_assign rfl rfl) rfl rfl (by decide) ?_
                      refine wl_nil ?_
                      refine fq_then ?_
                      refine wc_ret ?_
                      refine fq_block_ret ?_
                      refine fq_then_ret ?_
                      refine fq_ret1 rfl rfl (fun w1 H => ?_)
                      refine ⟨congrArg (fun z => Ending.returned (Value.bool z)) ?_, H.toBelow (by simp)⟩
                      rw [refMay_eq]
                      unfold refMay
                      repeat' split
                      all_goals first | rfl | (exfalso; omega) | (simp; omega)
                    · skip
                      have q43 := h43
                      try simp only [decide_eq_true_eq, decide_eq_false_iff_not, beq_iff_eq, beq_eq_false_iff_ne, bne_iff_ne, ne_eq, bne_eq_false_iff_eq, Int.not_lt, Int.not_le] at q43
                      refine wl_want (b := false) (q_move rfl rfl) rfl rfl rfl rfl (by decide) ?_
                      refine wl_want (b := false) (q_bin rfl rfl rfl rfl) rfl rfl rfl rfl (by decide) ?_
                      refine wl_q (q_pick rfl rfl rfl) rfl rfl (by decide) ?_
                      refine wl_q (q_assign rfl rfl) rfl rfl (by decide) ?_
                      refine wl_nil ?_
                      refine fq_then ?_
                      refine wc_ret ?_
                      refine fq_block_ret ?_
                      refine fq_then_ret ?_
                      refine fq_ret1 rfl rfl (fun w1 H => ?_)
                      refine ⟨congrArg (fun z => Ending.returned (Value.bool z)) ?_, H.toBelow (by simp)⟩
                      rw [refMay_eq]
                      unfold refMay
                      repeat' split
                      all_goals first | rfl | (exfalso; omega) | (simp; omega)
                  · skip
                    have q39 := h39
                    try simp only [decide_eq_true_eq, decide_eq_false_iff_not, beq_iff_eq, beq_eq_false_iff_ne, bne_iff_ne, ne_eq, bne_eq_false_iff_eq, Int.not_lt, Int.not_le] at q39
                    refine wc_seq ?_
                    refine wc_region ?_
                    refine wl_q (q_bin rfl rfl rfl rfl) rfl rfl (by decide) ?_
                    refine wl_q (q_assign rfl rfl) rfl rfl (by decide) ?_
                    refine wl_nil ?_
                    refine fq_then ?_
                    refine wc_cond rfl (fun h47 => ?_) (fun h47 => ?_)
                    · skip
                      have q47 := h47
                      try simp only [decide_eq_true_eq, decide_eq_false_iff_not, beq_iff_eq, beq_eq_false_iff_ne, bne_iff_ne, ne_eq, bne_eq_false_iff_eq, Int.not_lt, Int.not_le] at q47
                      refine wc_seq ?_
                      refine wc_region ?_
                      refine wl_q (q_move rfl rfl) rfl rfl (by decide) ?_
                      refine wl_q (q_bin rfl rfl rfl rfl) rfl rfl (by decide) ?_
                      refine wl_q (q_move rfl rfl) rfl rfl (by decide) ?_
                      refine wl_split (t := 51) rfl (fun h51 => ?_) (fun h51 => ?_)
                      · skip
                        have q51 := h51
                        try simp only [decide_eq_true_eq, decide_eq_false_iff_not, beq_iff_eq, beq_eq_false_iff_ne, bne_iff_ne, ne_eq, bne_eq_false_iff_eq, Int.not_lt, Int.not_le] at q51
                        refine wl_skip (b := true) rfl rfl rfl rfl (by decide) ?_
                        refine wl_skip (b := true) rfl rfl rfl rfl (by decide) ?_
                        refine wl_q (q_pick rfl rfl rfl) rfl rfl (by decide) ?_
                        refine wl_q (q_move rfl rfl) rfl rfl (by decide) ?_
                        refine wl_skip (b := true) rfl rfl rfl rfl (by decide) ?_
                        refine wl_skip (b := true) rfl rfl rfl rfl (by decide) ?_
                        refine wl_q (q_pick rfl rfl rfl) rfl rfl (by decide) ?_
                        refine wl_q (q_assign rfl rfl) rfl rfl (by decide) ?_
                        refine wl_nil ?_
                        refine fq_then ?_
                        refine wc_ret ?_
                        refine fq_block_ret ?_
                        refine fq_then_ret ?_
                        refine fq_ret1 rfl rfl (fun w1 H => ?_)
                        refine ⟨congrArg (fun z => Ending.returned (Value.bool z)) ?_, H.toBelow (by simp)⟩
                        rw [refMay_eq]
                        unfold refMay
                        repeat' split
                        all_goals first | rfl | (exfalso; omega) | (simp; omega)
                      · skip
                        have q51 := h51
                        try simp only [decide_eq_true_eq, decide_eq_false_iff_not, beq_iff_eq, beq_eq_false_iff_ne, bne_iff_ne, ne_eq, bne_eq_false_iff_eq, Int.not_lt, Int.not_le] at q51
                        refine wl_want (b := false) (q_move rfl rfl) rfl rfl rfl rfl (by decide) ?_
                        refine wl_want (b := false) (q_bin rfl rfl rfl rfl) rfl rfl rfl rfl (by decide) ?_
                        refine wl_q (q_pick rfl rfl rfl) rfl rfl (by decide) ?_
                        refine wl_q (q_move rfl rfl) rfl rfl (by decide) ?_
                        refine wl_split (t := 55) rfl (fun h55 => ?_) (fun h55 => ?_)
                        · skip
                          have q55 := h55
                          try simp only [decide_eq_true_eq, decide_eq_false_iff_not, beq_iff_eq, beq_eq_false_iff_ne, bne_iff_ne, ne_eq, bne_eq_false_iff_eq, Int.not_lt, Int.not_le] at q55
                          refine wl_skip (b := true) rfl rfl rfl rfl (by decide) ?_
                          refine wl_skip (b := true) rfl rfl rfl rfl (by decide) ?_
                          refine wl_q (q_pick rfl rfl rfl) rfl rfl (by decide) ?_
                          refine wl_q (q_assign rfl rfl) rfl rfl (by decide) ?_
                          refine wl_nil ?_
                          refine fq_then ?_
                          refine wc_ret ?_
                          refine fq_block_ret ?_
                          refine fq_then_ret ?_
                          refine fq_ret1 rfl rfl (fun w1 H => ?_)
                          refine ⟨congrArg (fun z => Ending.returned (Value.bool z)) ?_, H.toBelow (by simp)⟩
                          rw [refMay_eq]
                          unfold refMay
                          repeat' split
                          all_goals first | rfl | (exfalso; omega) | (simp; omega)
                        · skip
                          have q55 := h55
                          try simp only [decide_eq_true_eq, decide_eq_false_iff_not, beq_iff_eq, beq_eq_false_iff_ne, bne_iff_ne, ne_eq, bne_eq_false_iff_eq, Int.not_lt, Int.not_le] at q55
                          refine wl_want (b := false) (q_move rfl rfl) rfl rfl rfl rfl (by decide) ?_
                          refine wl_want (b := false) (q_bin rfl rfl rfl rfl) rfl rfl rfl rfl (by decide) ?_
                          refine wl_q (q_pick rfl rfl rfl) rfl rfl (by decide) ?_
                          refine wl_q (q_assign rfl rfl) rfl rfl (by decide) ?_
                          refine wl_nil ?_
                          refine fq_then ?_
                          refine wc_ret ?_
                          refine fq_block_ret ?_
                          refine fq_then_ret ?_
                          refine fq_ret1 rfl rfl (fun w1 H => ?_)
                          refine ⟨congrArg (fun z => Ending.returned (Value.bool z)) ?_, H.toBelow (by simp)⟩
                          rw [refMay_eq]
                          unfold refMay
                          repeat' split
                          all_goals first | rfl | (exfalso; omega) | (simp; omega)
                    · skip
                      have q47 := h47
                      try simp only [decide_eq_true_eq, decide_eq_false_iff_not, beq_iff_eq, beq_eq_false_iff_ne, bne_iff_ne, ne_eq, bne_eq_false_iff_eq, Int.not_lt, Int.not_le] at q47
                      refine wc_seq ?_
                      refine wc_region ?_
                      refine wl_q (q_bin rfl rfl rfl rfl) rfl rfl (by decide) ?_
                      refine wl_q (q_assign rfl rfl) rfl rfl (by decide) ?_
                      refine wl_nil ?_
                      refine fq_then ?_
                      refine wc_cond rfl (fun h59 => ?_) (fun h59 => ?_)
                      · skip
                        have q59 := h59
                        try simp only [decide_eq_true_eq, decide_eq_false_iff_not, beq_iff_eq, beq_eq_false_iff_ne, bne_iff_ne, ne_eq, bne_eq_false_iff_eq, Int.not_lt, Int.not_le] at q59
                        refine wc_seq ?_
                        refine wc_region ?_
                        refine wl_q (q_move rfl rfl) rfl rfl (by decide) ?_
                        refine wl_q (q_bin rfl rfl rfl rfl) rfl rfl (by decide) ?_
                        refine wl_q (q_move rfl rfl) rfl rfl (by decide) ?_
                        refine wl_split (t := 63) rfl (fun h63 => ?_) (fun h63 => ?_)
                        · skip
                          have q63 := h63
                          try simp only [decide_eq_true_eq, decide_eq_false_iff_not, beq_iff_eq, beq_eq_false_iff_ne, bne_iff_ne, ne_eq, bne_eq_false_iff_eq, Int.not_lt, Int.not_le] at q63
                          refine wl_skip (b := true) rfl rfl rfl rfl (by decide) ?_
                          refine wl_skip (b := true) rfl rfl rfl rfl (by decide) ?_
                          refine wl_q (q_pick rfl rfl rfl) rfl rfl (by decide) ?_
                          refine wl_q (q_move rfl rfl) rfl rfl (by decide) ?_
                          refine wl_skip (b := true) rfl rfl rfl rfl (by decide) ?_
                          refine wl_skip (b := true) rfl rfl rfl rfl (by decide) ?_
                          refine wl_q (q_pick rfl rfl rfl) rfl rfl (by decide) ?_
                          refine wl_q (q_assign rfl rfl) rfl rfl (by decide) ?_
                          refine wl_nil ?_
                          refine fq_then ?_
                          refine wc_ret ?_
                          refine fq_block_ret ?_
                          refine fq_then_ret ?_
                          refine fq_ret1 rfl rfl (fun w1 H => ?_)
                          refine ⟨congrArg (fun z => Ending.returned (Value.bool z)) ?_, H.toBelow (by simp)⟩
                          rw [refMay_eq]
                          unfold refMay
                          repeat' split
                          all_goals first | rfl | (exfalso; omega) | (simp; omega)
                        · skip
                          have q63 := h63
                          try simp only [decide_eq_true_eq, decide_eq_false_iff_not, beq_iff_eq, beq_eq_false_iff_ne, bne_iff_ne, ne_eq, bne_eq_false_iff_eq, Int.not_lt, Int.not_le] at q63
                          refine wl_want (b := false) (q_move rfl rfl) rfl rfl rfl rfl (by decide) ?_
                          refine wl_want (b := false) (q_bin rfl rfl rfl rfl) rfl rfl rfl rfl (by decide) ?_
                          refine wl_q (q_pick rfl rfl rfl) rfl rfl (by decide) ?_
                          refine wl_q (q_move rfl rfl) rfl rfl (by decide) ?_
                          refine wl_split (t := 67) rfl (fun h67 => ?_) (fun h67 => ?_)
                          · skip
                            have q67 := h67
                            try simp only [decide_eq_true_eq, decide_eq_false_iff_not, beq_iff_eq, beq_eq_false_iff_ne, bne_iff_ne, ne_eq, bne_eq_false_iff_eq, Int.not_lt, Int.not_le] at q67
                            refine wl_skip (b := true) rfl rfl rfl rfl (by decide) ?_
                            refine wl_skip (b := true) rfl rfl rfl rfl (by decide) ?_
                            refine wl_q (q_pick rfl rfl rfl) rfl rfl (by decide) ?_
                            refine wl_q (q_assign rfl rfl) rfl rfl (by decide) ?_
                            refine wl_nil ?_
                            refine fq_then ?_
                            refine wc_ret ?_
                            refine fq_block_ret ?_
                            refine fq_then_ret ?_
                            refine fq_ret1 rfl rfl (fun w1 H => ?_)
                            refine ⟨congrArg (fun z => Ending.returned (Value.bool z)) ?_, H.toBelow (by simp)⟩
                            rw [refMay_eq]
                            unfold refMay
                            repeat' split
                            all_goals first | rfl | (exfalso; omega) | (simp; omega)
                          · skip
                            have q67 := h67
                            try simp only [decide_eq_true_eq, decide_eq_false_iff_not, beq_iff_eq, beq_eq_false_iff_ne, bne_iff_ne, ne_eq, bne_eq_false_iff_eq, Int.not_lt, Int.not_le] at q67
                            refine wl_want (b := false) (q_move rfl rfl) rfl rfl rfl rfl (by decide) ?_
                            refine wl_want (b := false) (q_bin rfl rfl rfl rfl) rfl rfl rfl rfl (by decide) ?_
                            refine wl_q (q_pick rfl rfl rfl) rfl rfl (by decide) ?_
                            refine wl_q (q_assign rfl rfl) rfl rfl (by decide) ?_
                            refine wl_nil ?_
                            refine fq_then ?_
                            refine wc_ret ?_
                            refine fq_block_ret ?_
                            refine fq_then_ret ?_
                            refine fq_ret1 rfl rfl (fun w1 H => ?_)
                            refine ⟨congrArg (fun z => Ending.returned (Value.bool z)) ?_, H.toBelow (by simp)⟩
                            rw [refMay_eq]
                            unfold refMay
                            repeat' split
                            all_goals first | rfl | (exfalso; omega) | (simp; omega)
                      · skip
                        have q59 := h59
                        try simp only [decide_eq_true_eq, decide_eq_false_iff_not, beq_iff_eq, beq_eq_false_iff_ne, bne_iff_ne, ne_eq, bne_eq_false_iff_eq, Int.not_lt, Int.not_le] at q59
                        refine wc_skip ?_
                        refine fq_block ?_
                        refine fq_then ?_
                        refine wc_seq ?_
                        refine wc_region ?_
                        refine wl_q (q_move rfl rfl) rfl rfl (by decide) ?_
                        refine wl_q (q_bin rfl rfl rfl rfl) rfl rfl (by decide) ?_
                        refine wl_q (q_move rfl rfl) rfl rfl (by decide) ?_
                        refine wl_split (t := 73) rfl (fun h73 => ?_) (fun h73 => ?_)
                        · skip
                          have q73 := h73
                          try simp only [decide_eq_true_eq, decide_eq_false_iff_not, beq_iff_eq, beq_eq_false_iff_ne, bne_iff_ne, ne_eq, bne_eq_false_iff_eq, Int.not_lt, Int.not_le] at q73
                          refine wl_skip (b := true) rfl rfl rfl rfl (by decide) ?_
                          refine wl_skip (b := true) rfl rfl rfl rfl (by decide) ?_
                          refine wl_q (q_pick rfl rfl rfl) rfl rfl (by decide) ?_
                          refine wl_q (q_assign rfl rfl) rfl rfl (by decide) ?_
                          refine wl_nil ?_
                          refine fq_then ?_
                          refine wc_ret ?_
                          refine fq_ret1 rfl rfl (fun w1 H => ?_)
                          refine ⟨congrArg (fun z => Ending.returned (Value.bool z)) ?_, H.toBelow (by simp)⟩
                          rw [refMay_eq]
                          unfold refMay
                          repeat' split
                          all_goals first | rfl | (exfalso; omega) | (simp; omega)
                        · skip
                          have q73 := h73
                          try simp only [decide_eq_true_eq, decide_eq_false_iff_not, beq_iff_eq, beq_eq_false_iff_ne, bne_iff_ne, ne_eq, bne_eq_false_iff_eq, Int.not_lt, Int.not_le] at q73
                          refine wl_want (b := false) (q_move rfl rfl) rfl rfl rfl rfl (by decide) ?_
                          refine wl_want (b := false) (q_bin rfl rfl rfl rfl) rfl rfl rfl rfl (by decide) ?_
                          refine wl_q (q_pick rfl rfl rfl) rfl rfl (by decide) ?_
                          refine wl_q (q_assign rfl rfl) rfl rfl (by decide) ?_
                          refine wl_nil ?_
                          refine fq_then ?_
                          refine wc_ret ?_
                          refine fq_ret1 rfl rfl (fun w1 H => ?_)
                          refine ⟨congrArg (fun z => Ending.returned (Value.bool z)) ?_, H.toBelow (by simp)⟩
                          rw [refMay_eq]
                          unfold refMay
                          repeat' split
                          all_goals first | rfl | (exfalso; omega) | (simp; omega)

theorem fits2_calls (A : Option Addr) (c : Nat) (l : List Int) (w : World) (hr : Kd.C (Kd.int .i64) w A l.length l) : Calls Tryd.prog 19 #[.slice A l.length c] w fun e w' => e = .returned (.bool (fitsB l)) ∧ Below w.heap.size w w' := by
  obtain ⟨ad, R⟩ := introw_of hr
  have hn := R.hn
  refine enter (w0 := w) (hp := [old w]) (env := [(0, .slice A l.length c)]) Tryd.func19 rfl 79 rfl (by simp) rfl (HeapOK.start _) ?_
  refine wc_seq ?_
  refine wc_region ?_
  refine wl_q (q_assign rfl rfl) rfl rfl (by decide) ?_
  refine wl_nil ?_
  refine fq_then ?_
  refine wc_seq ?_
  refine wc_seq ?_
  refine wc_region ?_
  refine wl_q (q_assign rfl rfl) rfl rfl (by decide) ?_
  refine wl_nil ?_
  refine fq_then ?_
  refine wc_block ?_
  refine wc_loop (ι := Nat) (fun k => [(0, .slice A l.length c), (3, .int .i64 k)]) (fun k => [old w]) (fun k => k ≤ l.length ∧ ∀ i, i < k → isB (l.getD i 0) = true ∧ ∀ j, j < l.length → pairOK l i j) (fun k => l.length - k) 0 ⟨Nat.zero_le _, fun j h => absurd h (Nat.not_lt_zero _)⟩ ⟨List.forall_mem_cons.2 ⟨rfl, List.forall_mem_cons.2 ⟨rfl, fun _ h => (by cases h)⟩⟩, List.Sublist.refl _⟩ ?_
  rintro k ⟨hkn, hno⟩
  refine wc_seq ?_
  refine wc_seq ?_
  refine wc_region ?_
  refine wl_q (q_move rfl rfl) rfl rfl (by decide) ?_
  refine wl_q (q_move rfl rfl) rfl rfl (by decide) ?_
  refine wl_q (q_len rfl rfl Tryd.underlying37) rfl rfl (by decide) ?_
  refine wl_q (q_bin rfl rfl rfl rfl) rfl rfl (by decide) ?_
  refine wl_nil ?_
  refine fq_then ?_
  refine wc_cond rfl (fun h8 => ?_) (fun h8 => ?_)
  · skip
    have q8 := h8
    try simp only [decide_eq_true_eq, decide_eq_false_iff_not, beq_iff_eq, beq_eq_false_iff_ne, bne_iff_ne, ne_eq, bne_eq_false_iff_eq, Int.not_lt, Int.not_le] at q8
    have hlt : k < l.length := by omega
    refine wc_skip ?_
    refine fq_then ?_
    refine wc_seq ?_
    refine wc_block ?_
    refine wc_seq ?_
    refine wc_seq ?_
    refine wc_region ?_
    refine wl_q (q_move rfl rfl) rfl rfl (by decide) ?_
    refine wl_q (q_move rfl rfl) rfl rfl (by decide) ?_
    refine wl_q (q_indexO rfl rfl (R.hA (by omega)) rfl Tryd.underlying37 Sz3 (by omega) (by omega)) rfl rfl (by decide) ?_
    refine wl_q (q_load rfl rfl Mn3 (R.reads (by simp) hlt)) rfl rfl (by decide) ?_
    refine wl_q (q_bin rfl rfl rfl rfl) rfl rfl (by decide) ?_
    refine wl_q (q_move rfl rfl) rfl rfl (by decide) ?_
    refine wl_split (t := 16) rfl (fun h16 => ?_) (fun h16 => ?_)
    · skip
      have q16 := h16
      try simp only [decide_eq_true_eq, decide_eq_false_iff_not, beq_iff_eq, beq_eq_false_iff_ne, bne_iff_ne, ne_eq, bne_eq_false_iff_eq, Int.not_lt, Int.not_le] at q16
      refine wl_skip (b := true) rfl rfl rfl rfl (by decide) ?_
      refine wl_skip (b := true) rfl rfl rfl rfl (by decide) ?_
      refine wl_skip (b := true) rfl rfl rfl rfl (by decide) ?_
      refine wl_skip (b := true) rfl rfl rfl rfl (by decide) ?_
      refine wl_skip (b := true) rfl rfl rfl rfl (by decide) ?_
      refine wl_q (q_pick rfl rfl rfl) rfl rfl (by decide) ?_
      refine wl_nil ?_
      refine fq_then ?_
      refine wc_true rfl ?_
      refine wc_seq ?_
      refine wc_region ?_
      refine wl_q (q_assign rfl rfl) rfl rfl (by decide) ?_
      refine wl_nil ?_
      refine fq_then ?_
      refine wc_ret ?_
      refine fq_then_ret ?_
      refine fq_block_ret ?_
      refine fq_then_ret ?_
      refine fq_then_ret ?_
      refine fq_block_ret ?_
      refine fq_then_ret ?_
      refine fq_ret1 rfl rfl (fun w1 H => ?_)
      refine ⟨congrArg (fun z => Ending.returned (Value.bool z)) ?_, H.toBelow (by simp)⟩
      first
        | (exact ((fits_iff l).2 ⟨fun i hi => (hno i hi).1, fun i j hi hj => (hno i hi).2 j hj⟩).symm)
        | (exact (fits_f2 hlt hmt (by unfold pairOK sp; simp only [Bool.or_eq_true, beq_iff_eq]; omega)).symm)
        | (exact (fits_f1 hlt (isB_no (by omega))).symm)
    · skip
      have q16 := h16
      try simp only [decide_eq_true_eq, decide_eq_false_iff_not, beq_iff_eq, beq_eq_false_iff_ne, bne_iff_ne, ne_eq, bne_eq_false_iff_eq, Int.not_lt, Int.not_le] at q16
      refine wl_want (b := false) (q_move rfl rfl) rfl rfl rfl rfl (by decide) ?_
      refine wl_want (b := false) (q_move rfl rfl) rfl rfl rfl rfl (by decide) ?_
      refine wl_want (b := false) (q_indexO rfl rfl (R.hA (by omega)) rfl Tryd.underlying37 Sz3 (by omega) (by omega)) rfl rfl rfl rfl (by decide) ?_
      refine wl_want (b := false) (q_load rfl rfl Mn3 (R.reads (by simp) hlt)) rfl rfl rfl rfl (by decide) ?_
      refine wl_want (b := false) (q_bin rfl rfl rfl rfl) rfl rfl rfl rfl (by decide) ?_
      refine wl_q (q_pick rfl rfl rfl) rfl rfl (by decide) ?_
      refine wl_nil ?_
      refine fq_then ?_
      refine wc_cond rfl (fun h22 => ?_) (fun h22 => ?_)
      · skip
        have q22 := h22
        try simp only [decide_eq_true_eq, decide_eq_false_iff_not, beq_iff_eq, beq_eq_false_iff_ne, bne_iff_ne, ne_eq, bne_eq_false_iff_eq, Int.not_lt, Int.not_le] at q22
        refine wc_seq ?_
        refine wc_region ?_
        refine wl_q (q_assign rfl rfl) rfl rfl (by decide) ?_
        refine wl_nil ?_
        refine fq_then ?_
        refine wc_ret ?_
        refine fq_then_ret ?_
        refine fq_block_ret ?_
        refine fq_then_ret ?_
        refine fq_then_ret ?_
        refine fq_block_ret ?_
        refine fq_then_ret ?_
        refine fq_ret1 rfl rfl (fun w1 H => ?_)
        refine ⟨congrArg (fun z => Ending.returned (Value.bool z)) ?_, H.toBelow (by simp)⟩
        first
          | (exact ((fits_iff l).2 ⟨fun i hi => (hno i hi).1, fun i j hi hj => (hno i hi).2 j hj⟩).symm)
          | (exact (fits_f2 hlt hmt (by unfold pairOK sp; simp only [Bool.or_eq_true, beq_iff_eq]; omega)).symm)
          | (exact (fits_f1 hlt (isB_no (by omega))).symm)
      · skip
        have q22 := h22
        try simp only [decide_eq_true_eq, decide_eq_false_iff_not, beq_iff_eq, beq_eq_false_iff_ne, bne_iff_ne, ne_eq, bne_eq_false_iff_eq, Int.not_lt, Int.not_le] at q22
        refine wc_skip ?_
        refine fq_then ?_
        refine wc_seq ?_
        refine wc_region ?_
        refine wl_q (q_assign rfl rfl) rfl rfl (by decide) ?_
        refine wl_nil ?_
        refine fq_then ?_
        refine wc_block ?_
        refine wc_loop (ι := Nat) (fun m => [(0, .slice A l.length c), (3, .int .i64 k), (4, .int .i64 m)]) (fun m => [old w]) (fun m => m ≤ l.length ∧ ∀ j, j < m → pairOK l k j) (fun m => l.length - m) 0 ⟨Nat.zero_le _, fun j h => absurd h (Nat.not_lt_zero _)⟩ ⟨List.forall_mem_cons.2 ⟨rfl, List.forall_mem_cons.2 ⟨rfl, List.forall_mem_cons.2 ⟨rfl, fun _ h => (by cases h)⟩⟩⟩, List.Sublist.refl _⟩ ?_
        rintro m ⟨hmn, hmo⟩
        refine wc_seq ?_
        refine wc_seq ?_
        refine wc_region ?_
        refine wl_q (q_move rfl rfl) rfl rfl (by decide) ?_
        refine wl_q (q_move rfl rfl) rfl rfl (by decide) ?_
        refine wl_q (q_len rfl rfl Tryd.underlying37) rfl rfl (by decide) ?_
        refine wl_q (q_bin rfl rfl rfl rfl) rfl rfl (by decide) ?_
        refine wl_nil ?_
        refine fq_then ?_
        refine wc_cond rfl (fun h26 => ?_) (fun h26 => ?_)
        · skip
          have q26 := h26
          try simp only [decide_eq_true_eq, decide_eq_false_iff_not, beq_iff_eq, beq_eq_false_iff_ne, bne_iff_ne, ne_eq, bne_eq_false_iff_eq, Int.not_lt, Int.not_le] at q26
          have hmt : m < l.length := by omega
          refine wc_skip ?_
          refine fq_then ?_
          refine wc_seq ?_
          refine wc_block ?_
          refine wc_seq ?_
          refine wc_seq ?_
          refine wc_region ?_
          refine wl_q (q_move rfl rfl) rfl rfl (by decide) ?_
          refine wl_q (q_move rfl rfl) rfl rfl (by decide) ?_
          refine wl_q (q_bin rfl rfl rfl rfl) rfl rfl (by decide) ?_
          refine wl_q (q_move rfl rfl) rfl rfl (by decide) ?_
          refine wl_split (t := 32) rfl (fun h32 => ?_) (fun h32 => ?_)
          · skip
            have q32 := h32
            try simp only [decide_eq_true_eq, decide_eq_false_iff_not, beq_iff_eq, beq_eq_false_iff_ne, bne_iff_ne, ne_eq, bne_eq_false_iff_eq, Int.not_lt, Int.not_le] at q32
            refine wl_want (b := true) (q_move rfl rfl) rfl rfl rfl rfl (by decide) ?_
            refine wl_want (b := true) (q_move rfl rfl) rfl rfl rfl rfl (by decide) ?_
            refine wl_want (b := true) (q_indexO rfl rfl (R.hA (by omega)) rfl Tryd.underlying37 Sz3 (by omega) (by omega)) rfl rfl rfl rfl (by decide) ?_
            refine wl_want (b := true) (q_load rfl rfl Mn3 (R.reads (by simp) hlt)) rfl rfl rfl rfl (by decide) ?_
            refine wl_want (b := true) (q_bin rfl rfl rfl rfl) rfl rfl rfl rfl (by decide) ?_
            refine wl_want (b := true) (q_move rfl rfl) rfl rfl rfl rfl (by decide) ?_
            refine wl_split (t := 38) rfl (fun h38 => ?_) (fun h38 => ?_)
            · skip
              have q38 := h38
              try simp only [decide_eq_true_eq, decide_eq_false_iff_not, beq_iff_eq, beq_eq_false_iff_ne, bne_iff_ne, ne_eq, bne_eq_false_iff_eq, Int.not_lt, Int.not_le] at q38
              refine wl_skip (b := true) rfl rfl rfl rfl (by decide) ?_
              refine wl_skip (b := true) rfl rfl rfl rfl (by decide) ?_
              refine wl_skip (b := true) rfl rfl rfl rfl (by decide) ?_
              refine wl_skip (b := true) rfl rfl rfl rfl (by decide) ?_
              refine wl_skip (b := true) rfl rfl rfl rfl (by decide) ?_
              refine wl_want (b := true) (q_pick rfl rfl rfl) rfl rfl rfl rfl (by decide) ?_
              refine wl_q (q_pick rfl rfl rfl) rfl rfl (by decide) ?_
              refine wl_q (q_move rfl rfl) rfl rfl (by decide) ?_
              refine wl_want (b := true) (q_move rfl rfl) rfl rfl rfl rfl (by decide) ?_
              refine wl_want (b := true) (q_move rfl rfl) rfl rfl rfl rfl (by decide) ?_
              refine wl_want (b := true) (q_indexO rfl rfl (R.hA (by omega)) rfl Tryd.underlying37 Sz3 (by omega) (by omega)) rfl rfl rfl rfl (by decide) ?_
              refine wl_want (b := true) (q_load rfl rfl Mn3 (R.reads (by simp) hmt)) rfl rfl rfl rfl (by decide) ?_
              refine wl_want (b := true) (q_bin rfl rfl rfl rfl) rfl rfl rfl rfl (by decide) ?_
              refine wl_want (b := true) (q_move rfl rfl) rfl rfl rfl rfl (by decide) ?_
              refine wl_split (t := 52) rfl (fun h52 => ?_) (fun h52 => ?_)
              · skip
                have q52 := h52
                try simp only [decide_eq_true_eq, decide_eq_false_iff_not, beq_iff_eq, beq_eq_false_iff_ne, bne_iff_ne, ne_eq, bne_eq_false_iff_eq, Int.not_lt, Int.not_le] at q52
                refine wl_skip (b := true) rfl rfl rfl rfl (by decide) ?_
                refine wl_skip (b := true) rfl rfl rfl rfl (by decide) ?_
                refine wl_skip (b := true) rfl rfl rfl rfl (by decide) ?_
                refine wl_skip (b := true) rfl rfl rfl rfl (by decide) ?_
                refine wl_skip (b := true) rfl rfl rfl rfl (by decide) ?_
                refine wl_want (b := true) (q_pick rfl rfl rfl) rfl rfl rfl rfl (by decide) ?_
                refine wl_q (q_pick rfl rfl rfl) rfl rfl (by decide) ?_
                refine wl_nil ?_
                refine fq_then ?_
                refine wc_true rfl ?_
                refine wc_seq ?_
                refine wc_region ?_
                refine wl_q (q_assign rfl rfl) rfl rfl (by decide) ?_
                refine wl_nil ?_
                refine fq_then ?_
                refine wc_ret ?_
                refine fq_then_ret ?_
                refine fq_block_ret ?_
                refine fq_then_ret ?_
                refine fq_then_ret ?_
                refine fq_block_ret ?_
                refine fq_block_ret ?_
                refine fq_then_ret ?_
                refine fq_then_ret ?_
                refine fq_block_ret ?_
                refine fq_then_ret ?_
                refine fq_ret1 rfl rfl (fun w1 H => ?_)
                refine ⟨congrArg (fun z => Ending.returned (Value.bool z)) ?_, H.toBelow (by simp)⟩
                first
                  | (exact ((fits_iff l).2 ⟨fun i hi => (hno i hi).1, fun i j hi hj => (hno i hi).2 j hj⟩).symm)
                  | (exact (fits_f2 hlt hmt (by unfold pairOK sp; simp only [Bool.or_eq_true, beq_iff_eq]; omega)).symm)
                  | (exact (fits_f1 hlt (isB_no (by omega))).symm)
              · skip
                have q52 := h52
                try simp only [decide_eq_true_eq, decide_eq_false_iff_not, beq_iff_eq, beq_eq_false_iff_ne, bne_iff_ne, ne_eq, bne_eq_false_iff_eq, Int.not_lt, Int.not_le] at q52
                refine wl_want (b := false) (q_move rfl rfl) rfl rfl rfl rfl (by decide) ?_
                refine wl_want (b := false) (q_move rfl rfl) rfl rfl rfl rfl (by decide) ?_
                refine wl_want (b := false) (q_indexO rfl rfl (R.hA (by omega)) rfl Tryd.underlying37 Sz3 (by omega) (by omega)) rfl rfl rfl rfl (by decide) ?_
                refine wl_want (b := false) (q_load rfl rfl Mn3 (R.reads (by simp) hmt)) rfl rfl rfl rfl (by decide) ?_
                refine wl_want (b := false) (q_bin rfl rfl rfl rfl) rfl rfl rfl rfl (by decide) ?_
                refine wl_want (b := true) (q_pick rfl rfl rfl) rfl rfl rfl rfl (by decide) ?_
                refine wl_q (q_pick rfl rfl rfl) rfl rfl (by decide) ?_
                refine wl_nil ?_
                refine fq_then ?_
                refine wc_cond rfl (fun h59 => ?_) (fun h59 => ?_)
                · skip
                  have q59 := h59
                  try simp only [decide_eq_true_eq, decide_eq_false_iff_not, beq_iff_eq, beq_eq_false_iff_ne, bne_iff_ne, ne_eq, bne_eq_false_iff_eq, Int.not_lt, Int.not_le] at q59
                  refine wc_seq ?_
                  refine wc_region ?_
                  refine wl_q (q_assign rfl rfl) rfl rfl (by decide) ?_
                  refine wl_nil ?_
                  refine fq_then ?_
                  refine wc_ret ?_
                  refine fq_then_ret ?_
                  refine fq_block_ret ?_
                  refine fq_then_ret ?_
                  refine fq_then_ret ?_
                  refine fq_block_ret ?_
                  refine fq_block_ret ?_
                  refine fq_then_ret ?_
                  refine fq_then_ret ?_
                  refine fq_block_ret ?_
                  refine fq_then_ret ?_
                  refine fq_ret1 rfl rfl (fun w1 H => ?_)
                  refine ⟨congrArg (fun z => Ending.returned (Value.bool z)) ?_, H.toBelow (by simp)⟩
                  first
                    | (exact ((fits_iff l).2 ⟨fun i hi => (hno i hi).1, fun i j hi hj => (hno i hi).2 j hj⟩).symm)
                    | (exact (fits_f2 hlt hmt (by unfold pairOK sp; simp only [Bool.or_eq_true, beq_iff_eq]; omega)).symm)
                    | (exact (fits_f1 hlt (isB_no (by omega))).symm)
                · skip
                  have q59 := h59
                  try simp only [decide_eq_true_eq, decide_eq_false_iff_not, beq_iff_eq, beq_eq_false_iff_ne, bne_iff_ne, ne_eq, bne_eq_false_iff_eq, Int.not_lt, Int.not_le] at q59
                  refine wc_skip ?_
                  refine fq_then ?_
                  refine wc_seq ?_
                  refine wc_region ?_
                  refine wl_q (q_move rfl rfl) rfl rfl (by decide) ?_
                  refine wl_q (q_move rfl rfl) rfl rfl (by decide) ?_
                  refine wl_q (q_indexO rfl rfl (R.hA (by omega)) rfl Tryd.underlying37 Sz3 (by omega) (by omega)) rfl rfl (by decide) ?_
                  refine wl_q (q_load rfl rfl Mn3 (R.reads (by simp) hlt)) rfl rfl (by decide) ?_
                  refine wl_q (q_bin rfl rfl rfl rfl) rfl rfl (by decide) ?_
                  refine wl_q (q_move rfl rfl) rfl rfl (by decide) ?_
                  refine wl_split (t := 65) rfl (fun h65 => ?_) (fun h65 => ?_)
                  · skip
                    have q65 := h65
                    try simp only [decide_eq_true_eq, decide_eq_false_iff_not, beq_iff_eq, beq_eq_false_iff_ne, bne_iff_ne, ne_eq, bne_eq_false_iff_eq, Int.not_lt, Int.not_le] at q65
                    refine wl_want (b := true) (q_move rfl rfl) rfl rfl rfl rfl (by decide) ?_
                    refine wl_want (b := true) (q_move rfl rfl) rfl rfl rfl rfl (by decide) ?_
                    refine wl_want (b := true) (q_indexO rfl rfl (R.hA (by omega)) rfl Tryd.underlying37 Sz3 (by omega) (by omega)) rfl rfl rfl rfl (by decide) ?_
                    refine wl_want (b := true) (q_load rfl rfl Mn3 (R.reads (by simp) hmt)) rfl rfl rfl rfl (by decide) ?_
                    refine wl_want (b := true) (q_bin rfl rfl rfl rfl) rfl rfl rfl rfl (by decide) ?_
                    refine wl_q (q_pick rfl rfl rfl) rfl rfl (by decide) ?_
                    refine wl_q (q_move rfl rfl) rfl rfl (by decide) ?_
                    refine wl_split (t := 72) rfl (fun h72 => ?_) (fun h72 => ?_)
                    · skip
                      have q72 := h72
                      try simp only [decide_eq_true_eq, decide_eq_false_iff_not, beq_iff_eq, beq_eq_false_iff_ne, bne_iff_ne, ne_eq, bne_eq_false_iff_eq, Int.not_lt, Int.not_le] at q72
                      refine wl_want (b := true) (q_move rfl rfl) rfl rfl rfl rfl (by decide) ?_
                      refine wl_want (b := true) (q_move rfl rfl) rfl rfl rfl rfl (by decide) ?_
                      refine wl_want (b := true) (q_indexO rfl rfl (R.hA (by omega)) rfl Tryd.underlying37 Sz3 (by omega) (by omega)) rfl rfl rfl rfl (by decide) ?_
                      refine wl_want (b := true) (q_load rfl rfl Mn3 (R.reads (by simp) hmt)) rfl rfl rfl rfl (by decide) ?_
                      refine wl_want (b := true) (q_bin rfl rfl rfl rfl) rfl rfl rfl rfl (by decide) ?_
                      refine wl_q (q_pick rfl rfl rfl) rfl rfl (by decide) ?_
                      refine wl_nil ?_
                      refine fq_then ?_
                      refine wc_cond rfl (fun h78 => ?_) (fun h78 => ?_)
                      · skip
                        have q78 := h78
                        try simp only [decide_eq_true_eq, decide_eq_false_iff_not, beq_iff_eq, beq_eq_false_iff_ne, bne_iff_ne, ne_eq, bne_eq_false_iff_eq, Int.not_lt, Int.not_le] at q78
                        refine wc_seq ?_
                        refine wc_region ?_
                        refine wl_q (q_assign rfl rfl) rfl rfl (by decide) ?_
                        refine wl_nil ?_
                        refine fq_then ?_
                        refine wc_ret ?_
                        refine fq_block_ret ?_
                        refine fq_then_ret ?_
                        refine fq_then_ret ?_
                        refine fq_block_ret ?_
                        refine fq_block_ret ?_
                        refine fq_then_ret ?_
                        refine fq_then_ret ?_
                        refine fq_block_ret ?_
                        refine fq_then_ret ?_
                        refine fq_ret1 rfl rfl (fun w1 H => ?_)
                        refine ⟨congrArg (fun z => Ending.returned (Value.bool z)) ?_, H.toBelow (by simp)⟩
                        first
                          | (exact ((fits_iff l).2 ⟨fun i hi => (hno i hi).1, fun i j hi hj => (hno i hi).2 j hj⟩).symm)
                          | (exact (fits_f2 hlt hmt (by unfold pairOK sp; simp only [Bool.or_eq_true, beq_iff_eq]; omega)).symm)
                          | (exact (fits_f1 hlt (isB_no (by omega))).symm)
                      · skip
                        have q78 := h78
                        try simp only [decide_eq_true_eq, decide_eq_false_iff_not, beq_iff_eq, beq_eq_false_iff_ne, bne_iff_ne, ne_eq, bne_eq_false_iff_eq, Int.not_lt, Int.not_le] at q78
                        refine wc_skip ?_
                        refine fq_block ?_
                        refine fq_then ?_
                        refine wc_region ?_
                        refine wl_q (q_move rfl rfl) rfl rfl (by decide) ?_
                        refine wl_q (q_bin rfl rfl rfl rfl) rfl rfl (by decide) ?_
                        refine wl_q (q_assign rfl rfl) rfl rfl (by decide) ?_
                        refine wl_nil ?_
                        have hp : pairOK l k m := by unfold pairOK sp; constructor <;> (rintro ⟨a, b, c⟩; (try simp only [Bool.or_eq_true, beq_iff_eq] at b c); omega)
                        refine fq_next (m + 1) ⟨hmt, fun j hj => (Nat.lt_succ_iff_lt_or_eq.1 hj).elim (hmo j) (fun e => e ▸ hp)⟩ (by omega) ⟨List.forall_mem_cons.2 ⟨rfl, List.forall_mem_cons.2 ⟨rfl, List.forall_mem_cons.2 ⟨(congrArg (fun z => some (Value.int .i64 z)) (wk1 hmt hn)), fun _ h => (by cases h)⟩⟩⟩, List.Sublist.refl _⟩
                    · skip
                      have q72 := h72
                      try simp only [decide_eq_true_eq, decide_eq_false_iff_not, beq_iff_eq, beq_eq_false_iff_ne, bne_iff_ne, ne_eq, bne_eq_false_iff_eq, Int.not_lt, Int.not_le] at q72
                      refine wl_skip (b := false) rfl rfl rfl rfl (by decide) ?_
                      refine wl_skip (b := false) rfl rfl rfl rfl (by decide) ?_
                      refine wl_skip (b := false) rfl rfl rfl rfl (by decide) ?_
                      refine wl_skip (b := false) rfl rfl rfl rfl (by decide) ?_
                      refine wl_skip (b := false) rfl rfl rfl rfl (by decide) ?_
                      refine wl_q (q_pick rfl rfl rfl) rfl rfl (by decide) ?_
                      refine wl_nil ?_
                      refine fq_then ?_
                      refine wc_false rfl ?_
                      refine wc_skip ?_
                      refine fq_block ?_
                      refine fq_then ?_
                      refine wc_region ?_
                      refine wl_q (q_move rfl rfl) rfl rfl (by decide) ?_
                      refine wl_q (q_bin rfl rfl rfl rfl) rfl rfl (by decide) ?_
                      refine wl_q (q_assign rfl rfl) rfl rfl (by decide) ?_
                      refine wl_nil ?_
                      have hp : pairOK l k m := by unfold pairOK sp; constructor <;> (rintro ⟨a, b, c⟩; (try simp only [Bool.or_eq_true, beq_iff_eq] at b c); omega)
                      refine fq_next (m + 1) ⟨hmt, fun j hj => (Nat.lt_succ_iff_lt_or_eq.1 hj).elim (hmo j) (fun e => e ▸ hp)⟩ (by omega) ⟨List.forall_mem_cons.2 ⟨rfl, List.forall_mem_cons.2 ⟨rfl, List.forall_mem_cons.2 ⟨(congrArg (fun z => some (Value.int .i64 z)) (wk1 hmt hn)), fun _ h => (by cases h)⟩⟩⟩, List.Sublist.refl _⟩
                  · skip
                    have q65 := h65
                    try simp only [decide_eq_true_eq, decide_eq_false_iff_not, beq_iff_eq, beq_eq_false_iff_ne, bne_iff_ne, ne_eq, bne_eq_false_iff_eq, Int.not_lt, Int.not_le] at q65
                    refine wl_skip (b := false) rfl rfl rfl rfl (by decide) ?_
                    refine wl_skip (b := false) rfl rfl rfl rfl (by decide) ?_
                    refine wl_skip (b := false) rfl rfl rfl rfl (by decide) ?_
                    refine wl_skip (b := false) rfl rfl rfl rfl (by decide) ?_
                    refine wl_skip (b := false) rfl rfl rfl rfl (by decide) ?_
                    refine wl_q (q_pick rfl rfl rfl) rfl rfl (by decide) ?_
                    refine wl_q (q_move rfl rfl) rfl rfl (by decide) ?_
                    refine wl_skip (b := false) rfl rfl rfl rfl (by decide) ?_
                    refine wl_skip (b := false) rfl rfl rfl rfl (by decide) ?_
                    refine wl_skip (b := false) rfl rfl rfl rfl (by decide) ?_
                    refine wl_skip (b := false) rfl rfl rfl rfl (by decide) ?_
                    refine wl_skip (b := false) rfl rfl rfl rfl (by decide) ?_
                    refine wl_q (q_pick rfl rfl rfl) rfl rfl (by decide) ?_
                    refine wl_nil ?_
                    refine fq_then ?_
                    refine wc_false rfl ?_
                    refine wc_skip ?_
                    refine fq_block ?_
                    refine fq_then ?_
                    refine wc_region ?_
                    refine wl_q (q_move rfl rfl) rfl rfl (by decide) ?_
                    refine wl_q (q_bin rfl rfl rfl rfl) rfl rfl (by decide) ?_
                    refine wl_q (q_assign rfl rfl) rfl rfl (by decide) ?_
                    refine wl_nil ?_
                    have hp : pairOK l k m := by unfold pairOK sp; constructor <;> (rintro ⟨a, b, c⟩; (try simp only [Bool.or_eq_true, beq_iff_eq] at b c); omega)
                    refine fq_next (m + 1) ⟨hmt, fun j hj => (Nat.lt_succ_iff_lt_or_eq.1 hj).elim (hmo j) (fun e => e ▸ hp)⟩ (by omega) ⟨List.forall_mem_cons.2 ⟨rfl, List.forall_mem_cons.2 ⟨rfl, List.forall_mem_cons.2 ⟨(congrArg (fun z => some (Value.int .i64 z)) (wk1 hmt hn)), fun _ h => (by cases h)⟩⟩⟩, List.Sublist.refl _⟩
            · skip
              have q38 := h38
              try simp only [decide_eq_true_eq, decide_eq_false_iff_not, beq_iff_eq, beq_eq_false_iff_ne, bne_iff_ne, ne_eq, bne_eq_false_iff_eq, Int.not_lt, Int.not_le] at q38
              refine wl_want (b := false) (q_move rfl rfl) rfl rfl rfl rfl (by decide) ?_
              refine wl_want (b := false) (q_move rfl rfl) rfl rfl rfl rfl (by decide) ?_
              refine wl_want (b := false) (q_indexO rfl rfl (R.hA (by omega)) rfl Tryd.underlying37 Sz3 (by omega) (by omega)) rfl rfl rfl rfl (by decide) ?_
              refine wl_want (b := false) (q_load rfl rfl Mn3 (R.reads (by simp) hlt)) rfl rfl rfl rfl (by decide) ?_
              refine wl_want (b := false) (q_bin rfl rfl rfl rfl) rfl rfl rfl rfl (by decide) ?_
              refine wl_want (b := true) (q_pick rfl rfl rfl) rfl rfl rfl rfl (by decide) ?_
              refine wl_q (q_pick rfl rfl rfl) rfl rfl (by decide) ?_
              refine wl_q (q_move rfl rfl) rfl rfl (by decide) ?_
              refine wl_split (t := 46) rfl (fun h46 => ?_) (fun h46 => ?_)
              · skip
                have q46 := h46
                try simp only [decide_eq_true_eq, decide_eq_false_iff_not, beq_iff_eq, beq_eq_false_iff_ne, bne_iff_ne, ne_eq, bne_eq_false_iff_eq, Int.not_lt, Int.not_le] at q46
                refine wl_want (b := true) (q_move rfl rfl) rfl rfl rfl rfl (by decide) ?_
                refine wl_want (b := true) (q_move rfl rfl) rfl rfl rfl rfl (by decide) ?_
                refine wl_want (b := true) (q_indexO rfl rfl (R.hA (by omega)) rfl Tryd.underlying37 Sz3 (by omega) (by omega)) rfl rfl rfl rfl (by decide) ?_
                refine wl_want (b := true) (q_load rfl rfl Mn3 (R.reads (by simp) hmt)) rfl rfl rfl rfl (by decide) ?_
                refine wl_want (b := true) (q_bin rfl rfl rfl rfl) rfl rfl rfl rfl (by decide) ?_
                refine wl_want (b := true) (q_move rfl rfl) rfl rfl rfl rfl (by decide) ?_
                refine wl_split (t := 52) rfl (fun h52 => ?_) (fun h52 => ?_)
                · skip
                  have q52 := h52
                  try simp only [decide_eq_true_eq, decide_eq_false_iff_not, beq_iff_eq, beq_eq_false_iff_ne, bne_iff_ne, ne_eq, bne_eq_false_iff_eq, Int.not_lt, Int.not_le] at q52
                  refine wl_skip (b := true) rfl rfl rfl rfl (by decide) ?_
                  refine wl_skip (b := true) rfl rfl rfl rfl (by decide) ?_
                  refine wl_skip (b := true) rfl rfl rfl rfl (by decide) ?_
                  refine wl_skip (b := true) rfl rfl rfl rfl (by decide) ?_
                  refine wl_skip (b := true) rfl rfl rfl rfl (by decide) ?_
                  refine wl_want (b := true) (q_pick rfl rfl rfl) rfl rfl rfl rfl (by decide) ?_
                  refine wl_q (q_pick rfl rfl rfl) rfl rfl (by decide) ?_
                  refine wl_nil ?_
                  refine fq_then ?_
                  refine wc_true rfl ?_
                  refine wc_seq ?_
                  refine wc_region ?_
                  refine wl_q (q_assign rfl rfl) rfl rfl (by decide) ?_
                  refine wl_nil ?_
                  refine fq_then ?_
                  refine wc_ret ?_
                  refine fq_then_ret ?_
                  refine fq_block_ret ?_
                  refine fq_then_ret ?_
                  refine fq_then_ret ?_
                  refine fq_block_ret ?_
                  refine fq_block_ret ?_
                  refine fq_then_ret ?_
                  refine fq_then_ret ?_
                  refine fq_block_ret ?_
                  refine fq_then_ret ?_
                  refine fq_ret1 rfl rfl (fun w1 H => ?_)
                  refine ⟨congrArg (fun z => Ending.returned (Value.bool z)) ?_, H.toBelow (by simp)⟩
                  first
                    | (exact ((fits_iff l).2 ⟨fun i hi => (hno i hi).1, fun i j hi hj => (hno i hi).2 j hj⟩).symm)
                    | (exact (fits_f2 hlt hmt (by unfold pairOK sp; simp only [Bool.or_eq_true, beq_iff_eq]; omega)).symm)
                    | (exact (fits_f1 hlt (isB_no (by omega))).symm)
                · skip
                  have q52 := h52
                  try simp only [decide_eq_true_eq, decide_eq_false_iff_not, beq_iff_eq, beq_eq_false_iff_ne, bne_iff_ne, ne_eq, bne_eq_false_iff_eq, Int.not_lt, Int.not_le] at q52
                  refine wl_want (b := false) (q_move rfl rfl) rfl rfl rfl rfl (by decide) ?_
                  refine wl_want (b := false) (q_move rfl rfl) rfl rfl rfl rfl (by decide) ?_
                  refine wl_want (b := false) (q_indexO rfl rfl (R.hA (by omega)) rfl Tryd.underlying37 Sz3 (by omega) (by omega)) rfl rfl rfl rfl (by decide) ?_
                  refine wl_want (b := false) (q_load rfl rfl Mn3 (R.reads (by simp) hmt)) rfl rfl rfl rfl (by decide) ?_
                  refine wl_want (b := false) (q_bin rfl rfl rfl rfl) rfl rfl rfl rfl (by decide) ?_
                  refine wl_want (b := true) (q_pick rfl rfl rfl) rfl rfl rfl rfl (by decide) ?_
                  refine wl_q (q_pick rfl rfl rfl) rfl rfl (by decide) ?_
                  refine wl_nil ?_
                  refine fq_then ?_
                  refine wc_cond rfl (fun h59 => ?_) (fun h59 => ?_)
                  · skip
                    have q59 := h59
                    try simp only [decide_eq_true_eq, decide_eq_false_iff_not, beq_iff_eq, beq_eq_false_iff_ne, bne_iff_ne, ne_eq, bne_eq_false_iff_eq, Int.not_lt, Int.not_le] at q59
                    refine wc_seq ?_
                    refine wc_region ?_
                    refine wl_q (q_assign rfl rfl) rfl rfl (by decide) ?_
                    refine wl_nil ?_
                    refine fq_then ?_
                    refine wc_ret ?_
                    refine fq_then_ret ?_
                    refine fq_block_ret ?_
                    refine fq_then_ret ?_
                    refine fq_then_ret ?_
                    refine fq_block_ret ?_
                    refine fq_block_ret ?_
                    refine fq_then_ret ?_
                    refine fq_then_ret ?_
                    refine fq_block_ret ?_
                    refine fq_then_ret ?_
                    refine fq_ret1 rfl rfl (fun w1 H => ?_)
                    refine ⟨congrArg (fun z => Ending.returned (Value.bool z)) ?_, H.toBelow (by simp)⟩
                    first
                      | (exact ((fits_iff l).2 ⟨fun i hi => (hno i hi).1, fun i j hi hj => (hno i hi).2 j hj⟩).symm)
                      | (exact (fits_f2 hlt hmt (by unfold pairOK sp; simp only [Bool.or_eq_true, beq_iff_eq]; omega)).symm)
                      | (exact (fits_f1 hlt (isB_no (by omega))).symm)
                  · skip
                    have q59 := h59
                    try simp only [decide_eq_true_eq, decide_eq_false_iff_not, beq_iff_eq, beq_eq_false_iff_ne, bne_iff_ne, ne_eq, bne_eq_false_iff_eq, Int.not_lt, Int.not_le] at q59
                    refine wc_skip ?_
                    refine fq_then ?_
                    refine wc_seq ?_
                    refine wc_region ?_
                    refine wl_q (q_move rfl rfl) rfl rfl (by decide) ?_
                    refine wl_q (q_move rfl rfl) rfl rfl (by decide) ?_
                    refine wl_q (q_indexO rfl rfl (R.hA (by omega)) rfl Tryd.underlying37 Sz3 (by omega) (by omega)) rfl rfl (by decide) ?_
                    refine wl_q (q_load rfl rfl Mn3 (R.reads (by simp) hlt)) rfl rfl (by decide) ?_
                    refine wl_q (q_bin rfl rfl rfl rfl) rfl rfl (by decide) ?_
                    refine wl_q (q_move rfl rfl) rfl rfl (by decide) ?_
                    refine wl_split (t := 65) rfl (fun h65 => ?_) (fun h65 => ?_)
                    · skip
                      have q65 := h65
                      try simp only [decide_eq_true_eq, decide_eq_false_iff_not, beq_iff_eq, beq_eq_false_iff_ne, bne_iff_ne, ne_eq, bne_eq_false_iff_eq, Int.not_lt, Int.not_le] at q65
                      refine wl_want (b := true) (q_move rfl rfl) rfl rfl rfl rfl (by decide) ?_
                      refine wl_want (b := true) (q_move rfl rfl) rfl rfl rfl rfl (by decide) ?_
                      refine wl_want (b := true) (q_indexO rfl rfl (R.hA (by omega)) rfl Tryd.underlying37 Sz3 (by omega) (by omega)) rfl rfl rfl rfl (by decide) ?_
                      refine wl_want (b := true) (q_load rfl rfl Mn3 (R.reads (by simp) hmt)) rfl rfl rfl rfl (by decide) ?_
                      refine wl_want (b := true) (q_bin rfl rfl rfl rfl) rfl rfl rfl rfl (by decide) ?_
                      refine wl_q (q_pick rfl rfl rfl) rfl rfl (by decide) ?_
                      refine wl_q (q_move rfl rfl) rfl rfl (by decide) ?_
                      refine wl_split (t := 72) rfl (fun h72 => ?_) (fun h72 => ?_)
                      · skip
                        have q72 := h72
                        try simp only [decide_eq_true_eq, decide_eq_false_iff_not, beq_iff_eq, beq_eq_false_iff_ne, bne_iff_ne, ne_eq, bne_eq_false_iff_eq, Int.not_lt, Int.not_le] at q72
                        refine wl_want (b := true) (q_move rfl rfl) rfl rfl rfl rfl (by decide) ?_
                        refine wl_want (b := true) (q_move rfl rfl) rfl rfl rfl rfl (by decide) ?_
                        refine wl_want (b := true) (q_indexO rfl rfl (R.hA (by omega)) rfl Tryd.underlying37 Sz3 (by omega) (by omega)) rfl rfl rfl rfl (by decide) ?_
                        refine wl_want (b := true) (q_load rfl rfl Mn3 (R.reads (by simp) hmt)) rfl rfl rfl rfl (by decide) ?_
                        refine wl_want (b := true) (q_bin rfl rfl rfl rfl) rfl rfl rfl rfl (by decide) ?_
                        refine wl_q (q_pick rfl rfl rfl) rfl rfl (by decide) ?_
                        refine wl_nil ?_
                        refine fq_then ?_
                        refine wc_cond rfl (fun h78 => ?_) (fun h78 => ?_)
                        · skip
                          have q78 := h78
                          try simp only [decide_eq_true_eq, decide_eq_false_iff_not, beq_iff_eq, beq_eq_false_iff_ne, bne_iff_ne, ne_eq, bne_eq_false_iff_eq, Int.not_lt, Int.not_le] at q78
                          refine wc_seq ?_
                          refine wc_region ?_
                          refine wl_q (q_assign rfl rfl) rfl rfl (by decide) ?_
                          refine wl_nil ?_
                          refine fq_then ?_
                          refine wc_ret ?_
                          refine fq_block_ret ?_
                          refine fq_then_ret ?_
                          refine fq_then_ret ?_
                          refine fq_block_ret ?_
                          refine fq_block_ret ?_
                          refine fq_then_ret ?_
                          refine fq_then_ret ?_
                          refine fq_block_ret ?_
                          refine fq_then_ret ?_
                          refine fq_ret1 rfl rfl (fun w1 H => ?_)
                          refine ⟨congrArg (fun z => Ending.returned (Value.bool z)) ?_, H.toBelow (by simp)⟩
                          first
                            | (exact ((fits_iff l).2 ⟨fun i hi => (hno i hi).1, fun i j hi hj => (hno i hi).2 j hj⟩).symm)
                            | (exact (fits_f2 hlt hmt (by unfold pairOK sp; simp only [Bool.or_eq_true, beq_iff_eq]; omega)).symm)
                            | (exact (fits_f1 hlt (isB_no (by omega))).symm)
                        · skip
                          have q78 := h78
                          try simp only [decide_eq_true_eq, decide_eq_false_iff_not, beq_iff_eq, beq_eq_false_iff_ne, bne_iff_ne, ne_eq, bne_eq_false_iff_eq, Int.not_lt, Int.not_le] at q78
                          refine wc_skip ?_
                          refine fq_block ?_
                          refine fq_then ?_
                          refine wc_region ?_
                          refine wl_q (q_move rfl rfl) rfl rfl (by decide) ?_
                          refine wl_q (q_bin rfl rfl rfl rfl) rfl rfl (by decide) ?_
                          refine wl_q (q_assign rfl rfl) rfl rfl (by decide) ?_
                          refine wl_nil ?_
                          have hp : pairOK l k m := by unfold pairOK sp; constructor <;> (rintro ⟨a, b, c⟩; (try simp only [Bool.or_eq_true, beq_iff_eq] at b c); omega)
                          refine fq_next (m + 1) ⟨hmt, fun j hj => (Nat.lt_succ_iff_lt_or_eq.1 hj).elim (hmo j) (fun e => e ▸ hp)⟩ (by omega) ⟨List.forall_mem_cons.2 ⟨rfl, List.forall_mem_cons.2 ⟨rfl, List.forall_mem_cons.2 ⟨(congrArg (fun z => some (Value.int .i64 z)) (wk1 hmt hn)), fun _ h => (by cases h)⟩⟩⟩, List.Sublist.refl _⟩
                      · skip
                        have q72 := h72
                        try simp only [decide_eq_true_eq, decide_eq_false_iff_not, beq_iff_eq, beq_eq_false_iff_ne, bne_iff_ne, ne_eq, bne_eq_false_iff_eq, Int.not_lt, Int.not_le] at q72
                        refine wl_skip (b := false) rfl rfl rfl rfl (by decide) ?_
                        refine wl_skip (b := false) rfl rfl rfl rfl (by decide) ?_
                        refine wl_skip (b := false) rfl rfl rfl rfl (by decide) ?_
                        refine wl_skip (b := false) rfl rfl rfl rfl (by decide) ?_
                        refine wl_skip (b := false) rfl rfl rfl rfl (by decide) ?_
                        refine wl_q (q_pick rfl rfl rfl) rfl rfl (by decide) ?_
                        refine wl_nil ?_
                        refine fq_then ?_
                        refine wc_false rfl ?_
                        refine wc_skip ?_
                        refine fq_block ?_
                        refine fq_then ?_
                        refine wc_region ?_
                        refine wl_q (q_move rfl rfl) rfl rfl (by decide) ?_
                        refine wl_q (q_bin rfl rfl rfl rfl) rfl rfl (by decide) ?_
                        refine wl_q (q_assign rfl rfl) rfl rfl (by decide) ?_
                        refine wl_nil ?_
                        have hp : pairOK l k m := by unfold pairOK sp; constructor <;> (rintro ⟨a, b, c⟩; (try simp only [Bool.or_eq_true, beq_iff_eq] at b c); omega)
                        refine fq_next (m + 1) ⟨hmt, fun j hj => (Nat.lt_succ_iff_lt_or_eq.1 hj).elim (hmo j) (fun e => e ▸ hp)⟩ (by omega) ⟨List.forall_mem_cons.2 ⟨rfl, List.forall_mem_cons.2 ⟨rfl, List.forall_mem_cons.2 ⟨(congrArg (fun z => some (Value.int .i64 z)) (wk1 hmt hn)), fun _ h => (by cases h)⟩⟩⟩, List.Sublist.refl _⟩
                    · skip
                      have q65 := h65
                      try simp only [decide_eq_true_eq, decide_eq_false_iff_not, beq_iff_eq, beq_eq_false_iff_ne, bne_iff_ne, ne_eq, bne_eq_false_iff_eq, Int.not_lt, Int.not_le] at q65
                      refine wl_skip (b := false) rfl rfl rfl rfl (by decide) ?_
                      refine wl_skip (b := false) rfl rfl rfl rfl (by decide) ?_
                      refine wl_skip (b := false) rfl rfl rfl rfl (by decide) ?_
                      refine wl_skip (b := false) rfl rfl rfl rfl (by decide) ?_
                      refine wl_skip (b := false) rfl rfl rfl rfl (by decide) ?_
                      refine wl_q (q_pick rfl rfl rfl) rfl rfl (by decide) ?_
                      refine wl_q (q_move rfl rfl) rfl rfl (by decide) ?_
                      refine wl_skip (b := false) rfl rfl rfl rfl (by decide) ?_
                      refine wl_skip (b := false) rfl rfl rfl rfl (by decide) ?_
                      refine wl_skip (b := false) rfl rfl rfl rfl (by decide) ?_
                      refine wl_skip (b := false) rfl rfl rfl rfl (by decide) ?_
                      refine wl_skip (b := false) rfl rfl rfl rfl (by decide) ?_
                      refine wl_q (q_pick rfl rfl rfl) rfl rfl (by decide) ?_
                      refine wl_nil ?_
                      refine fq_then ?_
                      refine wc_false rfl ?_
                      refine wc_skip ?_
                      refine fq_block ?_
                      refine fq_then ?_
                      refine wc_region ?_
                      refine wl_q (q_move rfl rfl) rfl rfl (by decide) ?_
                      refine wl_q (q_bin rfl rfl rfl rfl) rfl rfl (by decide) ?_
                      refine wl_q (q_assign rfl rfl) rfl rfl (by decide) ?_
                      refine wl_nil ?_
                      have hp : pairOK l k m := by unfold pairOK sp; constructor <;> (rintro ⟨a, b, c⟩; (try simp only [Bool.or_eq_true, beq_iff_eq] at b c); omega)
                      refine fq_next (m + 1) ⟨hmt, fun j hj => (Nat.lt_succ_iff_lt_or_eq.1 hj).elim (hmo j) (fun e => e ▸ hp)⟩ (by omega) ⟨List.forall_mem_cons.2 ⟨rfl, List.forall_mem_cons.2 ⟨rfl, List.forall_mem_cons.2 ⟨(congrArg (fun z => some (Value.int .i64 z)) (wk1 hmt hn)), fun _ h => (by cases h)⟩⟩⟩, List.Sublist.refl _⟩
              · skip
                have q46 := h46
                try simp only [decide_eq_true_eq, decide_eq_false_iff_not, beq_iff_eq, beq_eq_false_iff_ne, bne_iff_ne, ne_eq, bne_eq_false_iff_eq, Int.not_lt, Int.not_le] at q46
                refine wl_skip (b := false) rfl rfl rfl rfl (by decide) ?_
                refine wl_skip (b := false) rfl rfl rfl rfl (by decide) ?_
                refine wl_skip (b := false) rfl rfl rfl rfl (by decide) ?_
                refine wl_skip (b := false) rfl rfl rfl rfl (by decide) ?_
                refine wl_skip (b := false) rfl rfl rfl rfl (by decide) ?_
                refine wl_skip (b := false) rfl rfl rfl rfl (by decide) ?_
                refine wl_skipU rfl rfl rfl rfl (by decide) ?_
                refine wl_skipU rfl rfl rfl rfl (by decide) ?_
                refine wl_skipU rfl rfl rfl rfl (by decide) ?_
                refine wl_skipU rfl rfl rfl rfl (by decide) ?_
                refine wl_skipU rfl rfl rfl rfl (by decide) ?_
                refine wl_skip (b := false) rfl rfl rfl rfl (by decide) ?_
                refine wl_q (q_pick rfl rfl rfl) rfl rfl (by decide) ?_
                refine wl_nil ?_
                refine fq_then ?_
                refine wc_false rfl ?_
                refine wc_skip ?_
                refine fq_then ?_
                refine wc_seq ?_
                refine wc_region ?_
                refine wl_q (q_move rfl rfl) rfl rfl (by decide) ?_
                refine wl_q (q_move rfl rfl) rfl rfl (by decide) ?_
                refine wl_q (q_indexO rfl rfl (R.hA (by omega)) rfl Tryd.underlying37 Sz3 (by omega) (by omega)) rfl rfl (by decide) ?_
                refine wl_q (q_load rfl rfl Mn3 (R.reads (by simp) hlt)) rfl rfl (by decide) ?_
                refine wl_q (q_bin rfl rfl rfl rfl) rfl rfl (by decide) ?_
                refine wl_q (q_move rfl rfl) rfl rfl (by decide) ?_
                refine wl_split (t := 65) rfl (fun h65 => ?_) (fun h65 => ?_)
                · skip
                  have q65 := h65
                  try simp only [decide_eq_true_eq, decide_eq_false_iff_not, beq_iff_eq, beq_eq_false_iff_ne, bne_iff_ne, ne_eq, bne_eq_false_iff_eq, Int.not_lt, Int.not_le] at q65
                  refine wl_want (b := true) (q_move rfl rfl) rfl rfl rfl rfl (by decide) ?_
                  refine wl_want (b := true) (q_move rfl rfl) rfl rfl rfl rfl (by decide) ?_
                  refine wl_want (b := true) (q_indexO rfl rfl (R.hA (by omega)) rfl Tryd.underlying37 Sz3 (by omega) (by omega)) rfl rfl rfl rfl (by decide) ?_
                  refine wl_want (b := true) (q_load rfl rfl Mn3 (R.reads (by simp) hmt)) rfl rfl rfl rfl (by decide) ?_
                  refine wl_want (b := true) (q_bin rfl rfl rfl rfl) rfl rfl rfl rfl (by decide) ?_
                  refine wl_q (q_pick rfl rfl rfl) rfl rfl (by decide) ?_
                  refine wl_q (q_move rfl rfl) rfl rfl (by decide) ?_
                  refine wl_split (t := 72) rfl (fun h72 => ?_) (fun h72 => ?_)
                  · skip
                    have q72 := h72
                    try simp only [decide_eq_true_eq, decide_eq_false_iff_not, beq_iff_eq, beq_eq_false_iff_ne, bne_iff_ne, ne_eq, bne_eq_false_iff_eq, Int.not_lt, Int.not_le] at q72
                    refine wl_want (b := true) (q_move rfl rfl) rfl rfl rfl rfl (by decide) ?_
                    refine wl_want (b := true) (q_move rfl rfl) rfl rfl rfl rfl (by decide) ?_
                    refine wl_want (b := true) (q_indexO rfl rfl (R.hA (by omega)) rfl Tryd.underlying37 Sz3 (by omega) (by omega)) rfl rfl rfl rfl (by decide) ?_
                    refine wl_want (b := true) (q_load rfl rfl Mn3 (R.reads (by simp) hmt)) rfl rfl rfl rfl (by decide) ?_
                    refine wl_want (b := true) (q_bin rfl rfl rfl rfl) rfl rfl rfl rfl (by decide) ?_
                    refine wl_q (q_pick rfl rfl rfl) rfl rfl (by decide) ?_
                    refine wl_nil ?_
                    refine fq_then ?_
                    refine wc_cond rfl (fun h78 => ?_) (fun h78 => ?_)
                    · skip
                      have q78 := h78
                      try simp only [decide_eq_true_eq, decide_eq_false_iff_not, beq_iff_eq, beq_eq_false_iff_ne, bne_iff_ne, ne_eq, bne_eq_false_iff_eq, Int.not_lt, Int.not_le] at q78
                      refine wc_seq ?_
                      refine wc_region ?_
                      refine wl_q (q_assign rfl rfl) rfl rfl (by decide) ?_
                      refine wl_nil ?_
                      refine fq_then ?_
                      refine wc_ret ?_
                      refine fq_block_ret ?_
                      refine fq_then_ret ?_
                      refine fq_then_ret ?_
                      refine fq_block_ret ?_
                      refine fq_block_ret ?_
                      refine fq_then_ret ?_
                      refine fq_then_ret ?_
                      refine fq_block_ret ?_
                      refine fq_then_ret ?_
                      refine fq_ret1 rfl rfl (fun w1 H => ?_)
                      refine ⟨congrArg (fun z => Ending.returned (Value.bool z)) ?_, H.toBelow (by simp)⟩
                      first
                        | (exact ((fits_iff l).2 ⟨fun i hi => (hno i hi).1, fun i j hi hj => (hno i hi).2 j hj⟩).symm)
                        | (exact (fits_f2 hlt hmt (by unfold pairOK sp; simp only [Bool.or_eq_true, beq_iff_eq]; omega)).symm)
                        | (exact (fits_f1 hlt (isB_no (by omega))).symm)
                    · skip
                      have q78 := h78
                      try simp only [decide_eq_true_eq, decide_eq_false_iff_not, beq_iff_eq, beq_eq_false_iff_ne, bne_iff_ne, ne_eq, bne_eq_false_iff_eq, Int.not_lt, Int.not_le] at q78
                      refine wc_skip ?_
                      refine fq_block ?_
                      refine fq_then ?_
                      refine wc_region ?_
                      refine wl_q (q_move rfl rfl) rfl rfl (by decide) ?_
                      refine wl_q (q_bin rfl rfl rfl rfl) rfl rfl (by decide) ?_
                      refine wl_q (q_assign rfl rfl) rfl rfl (by decide) ?_
                      refine wl_nil ?_
                      have hp : pairOK l k m := by unfold pairOK sp; constructor <;> (rintro ⟨a, b, c⟩; (try simp only [Bool.or_eq_true, beq_iff_eq] at b c); omega)
                      refine fq_next (m + 1) ⟨hmt, fun j hj => (Nat.lt_succ_iff_lt_or_eq.1 hj).elim (hmo j) (fun e => e ▸ hp)⟩ (by omega) ⟨List.forall_mem_cons.2 ⟨rfl, List.forall_mem_cons.2 ⟨rfl, List.forall_mem_cons.2 ⟨(congrArg (fun z => some (Value.int .i64 z)) (wk1 hmt hn)), fun _ h => (by cases h)⟩⟩⟩, List.Sublist.refl _⟩
                  · skip
                    have q72 := h72
                    try simp only [decide_eq_true_eq, decide_eq_false_iff_not, beq_iff_eq, beq_eq_false_iff_ne, bne_iff_ne, ne_eq, bne_eq_false_iff_eq, Int.not_lt, Int.not_le] at q72
                    refine wl_skip (b := false) rfl rfl rfl rfl (by decide) ?_
                    refine wl_skip (b := false) rfl rfl rfl rfl (by decide) ?_
                    refine wl_skip (b := false) rfl rfl rfl rfl (by decide) ?_
                    refine wl_skip (b := false) rfl rfl rfl rfl (by decide) ?_
                    refine wl_skip (b := false) rfl rfl rfl rfl (by decide) ?_
                    refine wl_q (q_pick rfl rfl rfl) rfl rfl (by decide) ?_
                    refine wl_nil ?_
                    refine fq_then ?_
                    refine wc_false rfl ?_
                    refine wc_skip ?_
                    refine fq_block ?_
                    refine fq_then ?_
                    refine wc_region ?_
                    refine wl_q (q_move rfl rfl) rfl rfl (by decide) ?_
                    refine wl_q (q_bin rfl rfl rfl rfl) rfl rfl (by decide) ?_
                    refine wl_q (q_assign rfl rfl) rfl rfl (by decide) ?_
                    refine wl_nil ?_
                    have hp : pairOK l k m := by unfold pairOK sp; constructor <;> (rintro ⟨a, b, c⟩; (try simp only [Bool.or_eq_true, beq_iff_eq] at b c); omega)
                    refine fq_next (m + 1) ⟨hmt, fun j hj => (Nat.lt_succ_iff_lt_or_eq.1 hj).elim (hmo j) (fun e => e ▸ hp)⟩ (by omega) ⟨List.forall_mem_cons.2 ⟨rfl, List.forall_mem_cons.2 ⟨rfl, List.forall_mem_cons.2 ⟨(congrArg (fun z => some (Value.int .i64 z)) (wk1 hmt hn)), fun _ h => (by cases h)⟩⟩⟩, List.Sublist.refl _⟩
                · skip
                  have q65 := h65
                  try simp only [decide_eq_true_eq, decide_eq_false_iff_not, beq_iff_eq, beq_eq_false_iff_ne, bne_iff_ne, ne_eq, bne_eq_false_iff_eq, Int.not_lt, Int.not_le] at q65
                  refine wl_skip (b := false) rfl rfl rfl rfl (by decide) ?_
                  refine wl_skip (b := false) rfl rfl rfl rfl (by decide) ?_
                  refine wl_skip (b := false) rfl rfl rfl rfl (by decide) ?_
                  refine wl_skip (b := false) rfl rfl rfl rfl (by decide) ?_
                  refine wl_skip (b := false) rfl rfl rfl rfl (by decide) ?_
                  refine wl_q (q_pick rfl rfl rfl) rfl rfl (by decide) ?_
                  refine wl_q (q_move rfl rfl) rfl rfl (by decide) ?_
                  refine wl_skip (b := false) rfl rfl rfl rfl (by decide) ?_
                  refine wl_skip (b := false) rfl rfl rfl rfl (by decide) ?_
                  refine wl_skip (b := false) rfl rfl rfl rfl (by decide) ?_
                  refine wl_skip (b := false) rfl rfl rfl rfl (by decide) ?_
                  refine wl_skip (b := false) rfl rfl rfl rfl (by decide) ?_
                  refine wl_q (q_pick rfl rfl rfl) rfl rfl (by decide) ?_
                  refine wl_nil ?_
                  refine fq_then ?_
                  refine wc_false rfl ?_
                  refine wc_skip ?_
                  refine fq_block ?_
                  refine fq_then ?_
                  refine wc_region ?_
                  refine wl_q (q_move rfl rfl) rfl rfl (by decide) ?_
                  refine wl_q (q_bin rfl rfl rfl rfl) rfl rfl (by decide) ?_
                  refine wl_q (q_assign rfl rfl) rfl rfl (by decide) ?_
                  refine wl_nil ?_
                  have hp : pairOK l k m := by unfold pairOK sp; constructor <;> (rintro ⟨a, b, c⟩; (try simp only [Bool.or_eq_true, beq_iff_eq] at b c); omega)
                  refine fq_next (m + 1) ⟨hmt, fun j hj => (Nat.lt_succ_iff_lt_or_eq.1 hj).elim (hmo j) (fun e => e ▸ hp)⟩ (by omega) ⟨List.forall_mem_cons.2 ⟨rfl, List.forall_mem_cons.2 ⟨rfl, List.forall_mem_cons.2 ⟨(congrArg (fun z => some (Value.int .i64 z)) (wk1 hmt hn)), fun _ h => (by cases h)⟩⟩⟩, List.Sublist.refl _⟩
          · skip
            have q32 := h32
            try simp only [decide_eq_true_eq, decide_eq_false_iff_not, beq_iff_eq, beq_eq_false_iff_ne, bne_iff_ne, ne_eq, bne_eq_false_iff_eq, Int.not_lt, Int.not_le] at q32
            refine wl_skip (b := false) rfl rfl rfl rfl (by decide) ?_
            refine wl_skip (b := false) rfl rfl rfl rfl (by decide) ?_
            refine wl_skip (b := false) rfl rfl rfl rfl (by decide) ?_
            refine wl_skip (b := false) rfl rfl rfl rfl (by decide) ?_
            refine wl_skip (b := false) rfl rfl rfl rfl (by decide) ?_
            refine wl_skip (b := false) rfl rfl rfl rfl (by decide) ?_
            refine wl_skipU rfl rfl rfl rfl (by decide) ?_
            refine wl_skipU rfl rfl rfl rfl (by decide) ?_
            refine wl_skipU rfl rfl rfl rfl (by decide) ?_
            refine wl_skipU rfl rfl rfl rfl (by decide) ?_
            refine wl_skipU rfl rfl rfl rfl (by decide) ?_
            refine wl_skip (b := false) rfl rfl rfl rfl (by decide) ?_
            refine wl_q (q_pick rfl rfl rfl) rfl rfl (by decide) ?_
            refine wl_q (q_move rfl rfl) rfl rfl (by decide) ?_
            refine wl_skip (b := false) rfl rfl rfl rfl (by decide) ?_
            refine wl_skip (b := false) rfl rfl rfl rfl (by decide) ?_
            refine wl_skip (b := false) rfl rfl rfl rfl (by decide) ?_
            refine wl_skip (b := false) rfl rfl rfl rfl (by decide) ?_
            refine wl_skip (b := false) rfl rfl rfl rfl (by decide) ?_
            refine wl_skip (b := false) rfl rfl rfl rfl (by decide) ?_
            refine wl_skipU rfl rfl rfl rfl (by decide) ?_
            refine wl_skipU rfl rfl rfl rfl (by decide) ?_
            refine wl_skipU rfl rfl rfl rfl (by decide) ?_
            refine wl_skipU rfl rfl rfl rfl (by decide) ?_
            refine wl_skipU rfl rfl rfl rfl (by decide) ?_
            refine wl_skip (b := false) rfl rfl rfl rfl (by decide) ?_
            refine wl_q (q_pick rfl rfl rfl) rfl rfl (by decide) ?_
            refine wl_nil ?_
            refine fq_then ?_
            refine wc_false rfl ?_
            refine wc_skip ?_
            refine fq_then ?_
            refine wc_seq ?_
            refine wc_region ?_
            refine wl_q (q_move rfl rfl) rfl rfl (by decide) ?_
            refine wl_q (q_move rfl rfl) rfl rfl (by decide) ?_
            refine wl_q (q_indexO rfl rfl (R.hA (by omega)) rfl Tryd.underlying37 Sz3 (by omega) (by omega)) rfl rfl (by decide) ?_
            refine wl_q (q_load rfl rfl Mn3 (R.reads (by simp) hlt)) rfl rfl (by decide) ?_
            refine wl_q (q_bin rfl rfl rfl rfl) rfl rfl (by decide) ?_
            refine wl_q (q_move rfl rfl) rfl rfl (by decide) ?_
            refine wl_split (t := 65) rfl (fun h65 => ?_) (fun h65 => ?_)
            · skip
              have q65 := h65
              try simp only [decide_eq_true_eq, decide_eq_false_iff_not, beq_iff_eq, beq_eq_false_iff_ne, bne_iff_ne, ne_eq, bne_eq_false_iff_eq, Int.not_lt, Int.not_le] at q65
              refine wl_want (b := true) (q_move rfl rfl) rfl rfl rfl rfl (by decide) ?_
              refine wl_want (b := true) (q_move rfl rfl) rfl rfl rfl rfl (by decide) ?_
              refine wl_want (b := true) (q_indexO rfl rfl (R.hA (by omega)) rfl Tryd.underlying37 Sz3 (by omega) (by omega)) rfl rfl rfl rfl (by decide) ?_
              refine wl_want (b := true) (q_load rfl rfl Mn3 (R.reads (by simp) hmt)) rfl rfl rfl rfl (by decide) ?_
              refine wl_want (b := true) (q_bin rfl rfl rfl rfl) rfl rfl rfl rfl (by decide) ?_
              refine wl_q (q_pick rfl rfl rfl) rfl rfl (by decide) ?_
              refine wl_q (q_move rfl rfl) rfl rfl (by decide) ?_
              refine wl_split (t := 72) rfl (fun h72 => ?_) (fun h72 => ?_)
              · skip
                have q72 := h72
                try simp only [decide_eq_true_eq, decide_eq_false_iff_not, beq_iff_eq, beq_eq_false_iff_ne, bne_iff_ne, ne_eq, bne_eq_false_iff_eq, Int.not_lt, Int.not_le] at q72
                refine wl_want (b := true) (q_move rfl rfl) rfl rfl rfl rfl (by decide) ?_
                refine wl_want (b := true) (q_move rfl rfl) rfl rfl rfl rfl (by decide) ?_
                refine wl_want (b := true) (q_indexO rfl rfl (R.hA (by omega)) rfl Tryd.underlying37 Sz3 (by omega) (by omega)) rfl rfl rfl rfl (by decide) ?_
                refine wl_want (b := true) (q_load rfl rfl Mn3 (R.reads (by simp) hmt)) rfl rfl rfl rfl (by decide) ?_
                refine wl_want (b := true) (q_bin rfl rfl rfl rfl) rfl rfl rfl rfl (by decide) ?_
                refine wl_q (q_pick rfl rfl rfl) rfl rfl (by decide) ?_
                refine wl_nil ?_
                refine fq_then ?_
                refine wc_cond rfl (fun h78 => ?_) (fun h78 => ?_)
                · skip
                  have q78 := h78
                  try simp only [decide_eq_true_eq, decide_eq_false_iff_not, beq_iff_eq, beq_eq_false_iff_ne, bne_iff_ne, ne_eq, bne_eq_false_iff_eq, Int.not_lt, Int.not_le] at q78
                  refine wc_seq ?_
                  refine wc_region ?_
                  refine wl_q (q_assign rfl rfl) rfl rfl (by decide) ?_
                  refine wl_nil ?_
                  refine fq_then ?_
                  refine wc_ret ?_
                  refine fq_block_ret ?_
                  refine fq_then_ret ?_
                  refine fq_then_ret ?_
                  refine fq_block_ret ?_
                  refine fq_block_ret ?_
                  refine fq_then_ret ?_
                  refine fq_then_ret ?_
                  refine fq_block_ret ?_
                  refine fq_then_ret ?_
                  refine fq_ret1 rfl rfl (fun w1 H => ?_)
                  refine ⟨congrArg (fun z => Ending.returned (Value.bool z)) ?_, H.toBelow (by simp)⟩
                  first
                    | (exact ((fits_iff l).2 ⟨fun i hi => (hno i hi).1, fun i j hi hj => (hno i hi).2 j hj⟩).symm)
                    | (exact (fits_f2 hlt hmt (by unfold pairOK sp; simp only [Bool.or_eq_true, beq_iff_eq]; omega)).symm)
                    | (exact (fits_f1 hlt (isB_no (by omega))).symm)
                · skip
                  have q78 := h78
                  try simp only [decide_eq_true_eq, decide_eq_false_iff_not, beq_iff_eq, beq_eq_false_iff_ne, bne_iff_ne, ne_eq, bne_eq_false_iff_eq, Int.not_lt, Int.not_le] at q78
                  refine wc_skip ?_
                  refine fq_block ?_
                  refine fq_then ?_
                  refine wc_region ?_
                  refine wl_q (q_move rfl rfl) rfl rfl (by decide) ?_
                  refine wl_q (q_bin rfl rfl rfl rfl) rfl rfl (by decide) ?_
                  refine wl_q (q_assign rfl rfl) rfl rfl (by decide) ?_
                  refine wl_nil ?_
                  have hp : pairOK l k m := by unfold pairOK sp; constructor <;> (rintro ⟨a, b, c⟩; (try simp only [Bool.or_eq_true, beq_iff_eq] at b c); omega)
                  refine fq_next (m + 1) ⟨hmt, fun j hj => (Nat.lt_succ_iff_lt_or_eq.1 hj).elim (hmo j) (fun e => e ▸ hp)⟩ (by omega) ⟨List.forall_mem_cons.2 ⟨rfl, List.forall_mem_cons.2 ⟨rfl, List.forall_mem_cons.2 ⟨(congrArg (fun z => some (Value.int .i64 z)) (wk1 hmt hn)), fun _ h => (by cases h)⟩⟩⟩, List.Sublist.refl _⟩
              · skip
                have q72 := h72
                try simp only [decide_eq_true_eq, decide_eq_false_iff_not, beq_iff_eq, beq_eq_false_iff_ne, bne_iff_ne, ne_eq, bne_eq_false_iff_eq, Int.not_lt, Int.not_le] at q72
                refine wl_skip (b := false) rfl rfl rfl rfl (by decide) ?_
                refine wl_skip (b := false) rfl rfl rfl rfl (by decide) ?_
                refine wl_skip (b := false) rfl rfl rfl rfl (by decide) ?_
                refine wl_skip (b := false) rfl rfl rfl rfl (by decide) ?_
                refine wl_skip (b := false) rfl rfl rfl rfl (by decide) ?_
                refine wl_q (q_pick rfl rfl rfl) rfl rfl (by decide) ?_
                refine wl_nil ?_
                refine fq_then ?_
                refine wc_false rfl ?_
                refine wc_skip ?_
                refine fq_block ?_
                refine fq_then ?_
                refine wc_region ?_
                refine wl_q (q_move rfl rfl) rfl rfl (by decide) ?_
                refine wl_q (q_bin rfl rfl rfl rfl) rfl rfl (by decide) ?_
                refine wl_q (q_assign rfl rfl) rfl rfl (by decide) ?_
                refine wl_nil ?_
                have hp : pairOK l k m := by unfold pairOK sp; constructor <;> (rintro ⟨a, b, c⟩; (try simp only [Bool.or_eq_true, beq_iff_eq] at b c); omega)
                refine fq_next (m + 1) ⟨hmt, fun j hj => (Nat.lt_succ_iff_lt_or_eq.1 hj).elim (hmo j) (fun e => e ▸ hp)⟩ (by omega) ⟨List.forall_mem_cons.2 ⟨rfl, List.forall_mem_cons.2 ⟨rfl, List.forall_mem_cons.2 ⟨(congrArg (fun z => some (Value.int .i64 z)) (wk1 hmt hn)), fun _ h => (by cases h)⟩⟩⟩, List.Sublist.refl _⟩
            · skip
              have q65 := h65
              try simp only [decide_eq_true_eq, decide_eq_false_iff_not, beq_iff_eq, beq_eq_false_iff_ne, bne_iff_ne, ne_eq, bne_eq_false_iff_eq, Int.not_lt, Int.not_le] at q65
              refine wl_skip (b := false) rfl rfl rfl rfl (by decide) ?_
              refine wl_skip (b := false) rfl rfl rfl rfl (by decide) ?_
              refine wl_skip (b := false) rfl rfl rfl rfl (by decide) ?_
              refine wl_skip (b := false) rfl rfl rfl rfl (by decide) ?_
              refine wl_skip (b := false) rfl rfl rfl rfl (by decide) ?_
              refine wl_q (q_pick rfl rfl rfl) rfl rfl (by decide) ?_
              refine wl_q (q_move rfl rfl) rfl rfl (by decide) ?_
              refine wl_skip (b := false) rfl rfl rfl rfl (by decide) ?_
              refine wl_skip (b := false) rfl rfl rfl rfl (by decide) ?_
              refine wl_skip (b := false) rfl rfl rfl rfl (by decide) ?_
              refine wl_skip (b := false) rfl rfl rfl rfl (by decide) ?_
              refine wl_skip (b := false) rfl rfl rfl rfl (by decide) ?_
              refine wl_q (q_pick rfl rfl rfl) rfl rfl (by decide) ?_
              refine wl_nil ?_
              refine fq_then ?_
              refine wc_false rfl ?_
              refine wc_skip ?_
              refine fq_block ?_
              refine fq_then ?_
              refine wc_region ?_
              refine wl_q (q_move rfl rfl) rfl rfl (by decide) ?_
              refine wl_q (q_bin rfl rfl rfl rfl) rfl rfl (by decide) ?_
              refine wl_q (q_assign rfl rfl) rfl rfl (by decide) ?_
              refine wl_nil ?_
              have hp : pairOK l k m := by unfold pairOK sp; constructor <;> (rintro ⟨a, b, c⟩; (try simp only [Bool.or_eq_true, beq_iff_eq] at b c); omega)
              refine fq_next (m + 1) ⟨hmt, fun j hj => (Nat.lt_succ_iff_lt_or_eq.1 hj).elim (hmo j) (fun e => e ▸ hp)⟩ (by omega) ⟨List.forall_mem_cons.2 ⟨rfl, List.forall_mem_cons.2 ⟨rfl, List.forall_mem_cons.2 ⟨(congrArg (fun z => some (Value.int .i64 z)) (wk1 hmt hn)), fun _ h => (by cases h)⟩⟩⟩, List.Sublist.refl _⟩
        · skip
          have q26 := h26
          try simp only [decide_eq_true_eq, decide_eq_false_iff_not, beq_iff_eq, beq_eq_false_iff_ne, bne_iff_ne, ne_eq, bne_eq_false_iff_eq, Int.not_lt, Int.not_le] at q26
          obtain rfl : m = l.length := by omega
          refine wc_exit ?_
          refine fq_then_exit ?_
          refine fq_then_exit ?_
          refine fq_block_hit ?_
          refine fq_block ?_
          refine fq_then ?_
          refine wc_region ?_
          refine wl_q (q_move rfl rfl) rfl rfl (by decide) ?_
          refine wl_q (q_bin rfl rfl rfl rfl) rfl rfl (by decide) ?_
          refine wl_q (q_assign rfl rfl) rfl rfl (by decide) ?_
          refine wl_nil ?_
          refine fq_next (k + 1) ⟨hlt, fun j hj => (Nat.lt_succ_iff_lt_or_eq.1 hj).elim (hno j) (fun e => e ▸ ⟨isB_mk (by omega) (by omega), hmo⟩)⟩ (by omega) ⟨List.forall_mem_cons.2 ⟨rfl, List.forall_mem_cons.2 ⟨(congrArg (fun z => some (Value.int .i64 z)) (wk1 hlt hn)), fun _ h => (by cases h)⟩⟩, List.Sublist.refl _⟩
  · skip
    have q8 := h8
    try simp only [decide_eq_true_eq, decide_eq_false_iff_not, beq_iff_eq, beq_eq_false_iff_ne, bne_iff_ne, ne_eq, bne_eq_false_iff_eq, Int.not_lt, Int.not_le] at q8
    obtain rfl : k = l.length := by omega
    refine wc_exit ?_
    refine fq_then_exit ?_
    refine fq_then_exit ?_
    refine fq_block_hit ?_
    refine fq_then ?_
    refine wc_seq ?_
    refine wc_region ?_
    refine wl_q (q_assign rfl rfl) rfl rfl (by decide) ?_
    refine wl_nil ?_
    refine fq_then ?_
    refine wc_ret ?_
    refine fq_ret1 rfl rfl (fun w1 H => ?_)
    refine ⟨congrArg (fun z => Ending.returned (Value.bool z)) ?_, H.toBelow (by simp)⟩
    first
      | (exact ((fits_iff l).2 ⟨fun i hi => (hno i hi).1, fun i j hi hj => (hno i hi).2 j hj⟩).symm)
      | (exact (fits_f2 hlt hmt (by unfold pairOK sp; simp only [Bool.or_eq_true, beq_iff_eq]; omega)).symm)
      | (exact (fits_f1 hlt (isB_no (by omega))).symm)

theorem follows2_calls (A : Option Addr) (c : Nat) (l : List Int) (A2 : Option Addr) (c2 : Nat) (l2 : List Int) (w : World) (hr : Kd.C (Kd.int .i64) w A l.length l) (hr2 : Kd.C (Kd.int .i64) w A2 l2.length l2) : Calls Tryd.prog 20 #[.slice A l.length c, .slice A2 l2.length c2] w fun e w' => e = .returned (.bool (followsB l l2)) ∧ Below w.heap.size w w' := by
  obtain ⟨ad, R⟩ := introw_of hr
  obtain ⟨ad2, R2⟩ := introw_of hr2
  have hn := R.hn
  refine enter (w0 := w) (hp := [old w]) (env := [(0, .slice A l.length c), (1, .slice A2 l2.length c2)]) Tryd.func20 rfl 43 rfl (by simp) rfl (HeapOK.start _) ?_
  refine wc_seq ?_
  refine wc_region ?_
  refine wl_q (q_assign rfl rfl) rfl rfl (by decide) ?_
  refine wl_nil ?_
  refine fq_then ?_
  refine wc_seq ?_
  refine wc_region ?_
  refine wl_q (q_move rfl rfl) rfl rfl (by decide) ?_
  refine wl_q (q_call rfl En19 rfl (fun w1 hw1 => fits2_calls _ _ _ w1 (Kd.C_below hr (hw1.toBelow (by simp))))) rfl rfl (by decide) ?_
  refine wl_q (q_assign rfl rfl) rfl rfl (by decide) ?_
  refine wl_nil ?_
  refine fq_then ?_
  refine wc_seq ?_
  refine wc_region ?_
  refine wl_q (q_move rfl rfl) rfl rfl (by decide) ?_
  refine wl_q (q_call rfl En19 rfl (fun w1 hw1 => fits2_calls _ _ _ w1 (Kd.C_below hr2 (hw1.toBelow (by simp))))) rfl rfl (by decide) ?_
  refine wl_q (q_assign rfl rfl) rfl rfl (by decide) ?_
  refine wl_nil ?_
  refine fq_then ?_
  refine wc_seq ?_
  refine wc_seq ?_
  refine wc_region ?_
  refine wl_q (q_move rfl rfl) rfl rfl (by decide) ?_
  refine wl_q (q_len rfl rfl Tryd.underlying37) rfl rfl (by decide) ?_
  refine wl_q (q_move rfl rfl) rfl rfl (by decide) ?_
  refine wl_q (q_len rfl rfl Tryd.underlying37) rfl rfl (by decide) ?_
  refine wl_q (q_bin rfl rfl rfl rfl) rfl rfl (by decide) ?_
  refine wl_q (q_move rfl rfl) rfl rfl (by decide) ?_
  refine wl_split (t := 18) rfl (fun h18 => ?_) (fun h18 => ?_)
  · skip
    have q18 := h18
    try simp only [decide_eq_true_eq, decide_eq_false_iff_not, beq_iff_eq, beq_eq_false_iff_ne, bne_iff_ne, ne_eq, bne_eq_false_iff_eq, Int.not_lt, Int.not_le] at q18
    refine wl_skip (b := true) rfl rfl rfl rfl (by decide) ?_
    refine wl_skip (b := true) rfl rfl rfl rfl (by decide) ?_
    refine wl_q (q_pick rfl rfl rfl) rfl rfl (by decide) ?_
    refine wl_q (q_move rfl rfl) rfl rfl (by decide) ?_
    refine wl_skip (b := true) rfl rfl rfl rfl (by decide) ?_
    refine wl_skip (b := true) rfl rfl rfl rfl (by decide) ?_
    refine wl_q (q_pick rfl rfl rfl) rfl rfl (by decide) ?_
    refine wl_nil ?_
    refine fq_then ?_
    refine wc_true rfl ?_
    refine wc_seq ?_
    refine wc_region ?_
    refine wl_q (q_assign rfl rfl) rfl rfl (by decide) ?_
    refine wl_nil ?_
    refine fq_then ?_
    refine wc_ret ?_
    refine fq_then_ret ?_
    refine fq_ret1 rfl rfl (fun w1 H => ?_)
    refine ⟨?_, H.toBelow (by simp)⟩
    first | rw [fol1 h18] | rw [fol2 h22] | rw [fol3 h25] | rw [fol4 hlt h42'] | rw [fol5 hlen hf1 hf2 hno]
  · skip
    have q18 := h18
    try simp only [decide_eq_true_eq, decide_eq_false_iff_not, beq_iff_eq, beq_eq_false_iff_ne, bne_iff_ne, ne_eq, bne_eq_false_iff_eq, Int.not_lt, Int.not_le] at q18
    refine wl_want (b := false) (q_move rfl rfl) rfl rfl rfl rfl (by decide) ?_
    refine wl_want (b := false) (q_not rfl rfl) rfl rfl rfl rfl (by decide) ?_
    refine wl_q (q_pick rfl rfl rfl) rfl rfl (by decide) ?_
    refine wl_q (q_move rfl rfl) rfl rfl (by decide) ?_
    refine wl_split (t := 22) rfl (fun h22 => ?_) (fun h22 => ?_)
    · skip
      have q22 := h22
      try simp only [decide_eq_true_eq, decide_eq_false_iff_not, beq_iff_eq, beq_eq_false_iff_ne, bne_iff_ne, ne_eq, bne_eq_false_iff_eq, Int.not_lt, Int.not_le] at q22
      refine wl_skip (b := true) rfl rfl rfl rfl (by decide) ?_
      refine wl_skip (b := true) rfl rfl rfl rfl (by decide) ?_
      refine wl_q (q_pick rfl rfl rfl) rfl rfl (by decide) ?_
      refine wl_nil ?_
      refine fq_then ?_
      refine wc_true rfl ?_
      refine wc_seq ?_
      refine wc_region ?_
      refine wl_q (q_assign rfl rfl) rfl rfl (by decide) ?_
      refine wl_nil ?_
      refine fq_then ?_
      refine wc_ret ?_
      refine fq_then_ret ?_
      refine fq_ret1 rfl rfl (fun w1 H => ?_)
      refine ⟨?_, H.toBelow (by simp)⟩
      first | rw [fol1 h18] | rw [fol2 h22] | rw [fol3 h25] | rw [fol4 hlt h42'] | rw [fol5 hlen hf1 hf2 hno]
    · skip
      have q22 := h22
      try simp only [decide_eq_true_eq, decide_eq_false_iff_not, beq_iff_eq, beq_eq_false_iff_ne, bne_iff_ne, ne_eq, bne_eq_false_iff_eq, Int.not_lt, Int.not_le] at q22
      refine wl_want (b := false) (q_move rfl rfl) rfl rfl rfl rfl (by decide) ?_
      refine wl_want (b := false) (q_not rfl rfl) rfl rfl rfl rfl (by decide) ?_
      refine wl_q (q_pick rfl rfl rfl) rfl rfl (by decide) ?_
      refine wl_nil ?_
      refine fq_then ?_
      refine wc_cond rfl (fun h25 => ?_) (fun h25 => ?_)
      · skip
        have q25 := h25
        try simp only [decide_eq_true_eq, decide_eq_false_iff_not, beq_iff_eq, beq_eq_false_iff_ne, bne_iff_ne, ne_eq, bne_eq_false_iff_eq, Int.not_lt, Int.not_le] at q25
        refine wc_seq ?_
        refine wc_region ?_
        refine wl_q (q_assign rfl rfl) rfl rfl (by decide) ?_
        refine wl_nil ?_
        refine fq_then ?_
        refine wc_ret ?_
        refine fq_then_ret ?_
        refine fq_ret1 rfl rfl (fun w1 H => ?_)
        refine ⟨?_, H.toBelow (by simp)⟩
        first | rw [fol1 h18] | rw [fol2 h22] | rw [fol3 h25] | rw [fol4 hlt h42'] | rw [fol5 hlen hf1 hf2 hno]
      · skip
        have q25 := h25
        try simp only [decide_eq_true_eq, decide_eq_false_iff_not, beq_iff_eq, beq_eq_false_iff_ne, bne_iff_ne, ne_eq, bne_eq_false_iff_eq, Int.not_lt, Int.not_le] at q25
        refine wc_skip ?_
        refine fq_then ?_
        refine wc_seq ?_
        refine wc_seq ?_
        refine wc_region ?_
        refine wl_q (q_assign rfl rfl) rfl rfl (by decide) ?_
        refine wl_nil ?_
        refine fq_then ?_
        refine wc_block ?_
        have hlen : l.length = l2.length := by omega
        have hf1 : fitsB l = true := by simpa using h22
        have hf2 : fitsB l2 = true := by simpa using h25
        refine wc_loop (ι := Nat) (fun k => [(0, .slice A l.length c), (1, .slice A2 l2.length c2), (7, .int .i64 k)]) (fun k => [old w]) (fun k => k ≤ l.length ∧ ∀ j, j < k → mayB (l.getD j 0) (l2.getD j 0) = true) (fun k => l.length - k) 0 ⟨Nat.zero_le _, fun j h => absurd h (Nat.not_lt_zero _)⟩ ⟨List.forall_mem_cons.2 ⟨rfl, List.forall_mem_cons.2 ⟨rfl, List.forall_mem_cons.2 ⟨rfl, fun _ h => (by cases h)⟩⟩⟩, List.Sublist.refl _⟩ ?_
        rintro k ⟨hkn, hno⟩
        refine wc_seq ?_
        refine wc_seq ?_
        refine wc_region ?_
        refine wl_q (q_move rfl rfl) rfl rfl (by decide) ?_
        refine wl_q (q_move rfl rfl) rfl rfl (by decide) ?_
        refine wl_q (q_len rfl rfl Tryd.underlying37) rfl rfl (by decide) ?_
        refine wl_q (q_bin rfl rfl rfl rfl) rfl rfl (by decide) ?_
        refine wl_nil ?_
        refine fq_then ?_
        refine wc_cond rfl (fun h29 => ?_) (fun h29 => ?_)
        · skip
          have q29 := h29
          try simp only [decide_eq_true_eq, decide_eq_false_iff_not, beq_iff_eq, beq_eq_false_iff_ne, bne_iff_ne, ne_eq, bne_eq_false_iff_eq, Int.not_lt, Int.not_le] at q29
          have hlt : k < l.length := by omega
          refine wc_skip ?_
          refine fq_then ?_
          refine wc_seq ?_
          refine wc_block ?_
          refine wc_seq ?_
          refine wc_draw 10 Fol (by kernel_rfl) (Chain.yield (q_move rfl rfl) rfl rfl (Chain.yield (q_move rfl rfl) rfl rfl (Chain.yield (q_indexO rfl rfl (R.hA (by omega)) rfl Tryd.underlying37 Sz3 (by omega) (by omega)) rfl rfl (Chain.yield (q_load rfl rfl Mn3 (R.reads (by simp) hlt)) rfl rfl (Chain.yield (q_move rfl rfl) rfl rfl (Chain.yield (q_move rfl rfl) rfl rfl (Chain.yield (q_indexO rfl rfl (R2.hA (by omega)) rfl Tryd.underlying37 Sz3 (by omega) (by omega)) rfl rfl (Chain.yield (q_load rfl rfl Mn3 (R2.reads (by simp) (by omega))) rfl rfl (Chain.yield (q_call rfl En32 rfl (fun w1 hw1 => may2_calls _ _ w1)) rfl rfl (Chain.yield (q_assign rfl rfl) rfl rfl (Chain.nil _))))))))))) ?_
          refine wl_nil ?_
          refine fq_then ?_
          refine wc_seq ?_
          refine wc_region ?_
          refine wl_q (q_move rfl rfl) rfl rfl (by decide) ?_
          refine wl_q (q_not rfl rfl) rfl rfl (by decide) ?_
          refine wl_nil ?_
          refine fq_then ?_
          refine wc_cond rfl (fun h42 => ?_) (fun h42 => ?_)
          · skip
            have q42 := h42
            try simp only [decide_eq_true_eq, decide_eq_false_iff_not, beq_iff_eq, beq_eq_false_iff_ne, bne_iff_ne, ne_eq, bne_eq_false_iff_eq, Int.not_lt, Int.not_le] at q42
            have h42' : mayB (l.getD k 0) (l2.getD k 0) = false := by simpa using h42
            refine wc_seq ?_
            refine wc_region ?_
            refine wl_q (q_assign rfl rfl) rfl rfl (by decide) ?_
            refine wl_nil ?_
            refine fq_then ?_
            refine wc_ret ?_
            refine fq_block_ret ?_
            refine fq_then_ret ?_
            refine fq_then_ret ?_
            refine fq_block_ret ?_
            refine fq_then_ret ?_
            refine fq_ret1 rfl rfl (fun w1 H => ?_)
            refine ⟨?_, H.toBelow (by simp)⟩
            first | rw [fol1 h18] | rw [fol2 h22] | rw [fol3 h25] | rw [fol4 hlt h42'] | rw [fol5 hlen hf1 hf2 hno]
          · skip
            have q42 := h42
            try simp only [decide_eq_true_eq, decide_eq_false_iff_not, beq_iff_eq, beq_eq_false_iff_ne, bne_iff_ne, ne_eq, bne_eq_false_iff_eq, Int.not_lt, Int.not_le] at q42
            have h42' : mayB (l.getD k 0) (l2.getD k 0) = true := by simpa using h42
            refine wc_skip ?_
            refine fq_block ?_
            refine fq_then ?_
            refine wc_region ?_
            refine wl_q (q_move rfl rfl) rfl rfl (by decide) ?_
            refine wl_q (q_bin rfl rfl rfl rfl) rfl rfl (by decide) ?_
            refine wl_q (q_assign rfl rfl) rfl rfl (by decide) ?_
            refine wl_nil ?_
            refine fq_next (k + 1) ⟨hlt, fun j hj => (Nat.lt_succ_iff_lt_or_eq.1 hj).elim (hno j) (fun e => e ▸ h42')⟩ (by omega) ⟨List.forall_mem_cons.2 ⟨rfl, List.forall_mem_cons.2 ⟨rfl, List.forall_mem_cons.2 ⟨(congrArg (fun z => some (Value.int .i64 z)) (wk1 hlt hn)), fun _ h => (by cases h)⟩⟩⟩, List.Sublist.refl _⟩
        · skip
          have q29 := h29
          try simp only [decide_eq_true_eq, decide_eq_false_iff_not, beq_iff_eq, beq_eq_false_iff_ne, bne_iff_ne, ne_eq, bne_eq_false_iff_eq, Int.not_lt, Int.not_le] at q29
          obtain rfl : k = l.length := by omega
          refine wc_exit ?_
          refine fq_then_exit ?_
          refine fq_then_exit ?_
          refine fq_block_hit ?_
          refine fq_then ?_
          refine wc_seq ?_
          refine wc_region ?_
          refine wl_q (q_assign rfl rfl) rfl rfl (by decide) ?_
          refine wl_nil ?_
          refine fq_then ?_
          refine wc_ret ?_
          refine fq_ret1 rfl rfl (fun w1 H => ?_)
          refine ⟨?_, H.toBelow (by simp)⟩
          first | rw [fol1 h18] | rw [fol2 h22] | rw [fol3 h25] | rw [fol4 hlt h42'] | rw [fol5 hlen hf1 hf2 hno]

theorem has2_calls (x car : Int) (w : World) (h0 : 0 ≤ x) (h1 : x < 18446744073709551616) : Calls Tryd.prog 26 #[.int .u64 x, .int .i64 car] w fun e w' => e = .returned (.bool (refHas x car)) ∧ Below w.heap.size w w' := by
  refine enter (w0 := w) (hp := [old w]) (env := [(0, .int .u64 x), (1, .int .i64 car)]) Tryd.func26 rfl 22 rfl (by simp) rfl (HeapOK.start _) ?_
  refine wc_seq ?_
  refine wc_region ?_
  refine wl_q (q_assign rfl rfl) rfl rfl (by decide) ?_
  refine wl_nil ?_
  refine fq_then ?_
  refine wc_seq ?_
  refine wc_seq ?_
  refine wc_region ?_
  refine wl_q (q_move rfl rfl) rfl rfl (by decide) ?_
  refine wl_q (q_bin rfl rfl rfl rfl) rfl rfl (by decide) ?_
  refine wl_q (q_move rfl rfl) rfl rfl (by decide) ?_
  refine wl_split (t := 8) rfl (fun h8 => ?_) (fun h8 => ?_)
  · skip
    have q8 := h8
    try simp only [decide_eq_true_eq, decide_eq_false_iff_not, beq_iff_eq, beq_eq_false_iff_ne, bne_iff_ne, ne_eq, bne_eq_false_iff_eq, Int.not_lt, Int.not_le] at q8
    refine wl_skip (b := true) rfl rfl rfl rfl (by decide) ?_
    refine wl_skip (b := true) rfl rfl rfl rfl (by decide) ?_
    refine wl_q (q_pick rfl rfl rfl) rfl rfl (by decide) ?_
    refine wl_nil ?_
    refine fq_then ?_
    refine wc_true rfl ?_
    refine wc_seq ?_
    refine wc_region ?_
    refine wl_q (q_assign rfl rfl) rfl rfl (by decide) ?_
    refine wl_nil ?_
    refine fq_then ?_
    refine wc_ret ?_
    refine fq_then_ret ?_
    refine fq_ret1 rfl rfl (fun w1 H => ?_)
    refine ⟨congrArg (fun z => Ending.returned (Value.bool z)) ?_, H.toBelow (by simp)⟩
    unfold refHas
    first
      | (rw [if_pos (by omega)])
      | (rw [if_neg (by omega), Int.toNat_natCast, Int.tmod_eq_emod_of_nonneg (Int.ediv_nonneg h0 (by have : (0 : Int) < 2 ^ k := Int.pow_pos (by decide); omega))])
  · skip
    have q8 := h8
    try simp only [decide_eq_true_eq, decide_eq_false_iff_not, beq_iff_eq, beq_eq_false_iff_ne, bne_iff_ne, ne_eq, bne_eq_false_iff_eq, Int.not_lt, Int.not_le] at q8
    refine wl_want (b := false) (q_move rfl rfl) rfl rfl rfl rfl (by decide) ?_
    refine wl_want (b := false) (q_bin rfl rfl rfl rfl) rfl rfl rfl rfl (by decide) ?_
    refine wl_q (q_pick rfl rfl rfl) rfl rfl (by decide) ?_
    refine wl_nil ?_
    refine fq_then ?_
    refine wc_cond rfl (fun h11 => ?_) (fun h11 => ?_)
    · skip
      have q11 := h11
      try simp only [decide_eq_true_eq, decide_eq_false_iff_not, beq_iff_eq, beq_eq_false_iff_ne, bne_iff_ne, ne_eq, bne_eq_false_iff_eq, Int.not_lt, Int.not_le] at q11
      refine wc_seq ?_
      refine wc_region ?_
      refine wl_q (q_assign rfl rfl) rfl rfl (by decide) ?_
      refine wl_nil ?_
      refine fq_then ?_
      refine wc_ret ?_
      refine fq_then_ret ?_
      refine fq_ret1 rfl rfl (fun w1 H => ?_)
      refine ⟨congrArg (fun z => Ending.returned (Value.bool z)) ?_, H.toBelow (by simp)⟩
      unfold refHas
      first
        | (rw [if_pos (by omega)])
        | (rw [if_neg (by omega), Int.toNat_natCast, Int.tmod_eq_emod_of_nonneg (Int.ediv_nonneg h0 (by have : (0 : Int) < 2 ^ k := Int.pow_pos (by decide); omega))])
    · skip
      have q11 := h11
      try simp only [decide_eq_true_eq, decide_eq_false_iff_not, beq_iff_eq, beq_eq_false_iff_ne, bne_iff_ne, ne_eq, bne_eq_false_iff_eq, Int.not_lt, Int.not_le] at q11
      refine wc_skip ?_
      refine fq_then ?_
      refine wc_seq ?_
      refine wc_seq ?_
      refine wc_region ?_
      refine wl_q (q_assign rfl rfl) rfl rfl (by decide) ?_
      refine wl_nil ?_
      refine fq_then ?_
      refine wc_block ?_
      refine wc_loop (ι := Nat) (fun k => [(0, .int .u64 (x / 2 ^ k)), (1, .int .i64 car), (5, .int .i64 k)]) (fun k => [old w]) (fun k => (k : Int) ≤ car) (fun k => car.toNat - k) 0 (by omega) ⟨List.forall_mem_cons.2 ⟨(congrArg (fun z => some (Value.int .u64 z)) (show x = x / 2 ^ 0 by rw [Int.pow_zero, Int.ediv_one])), List.forall_mem_cons.2 ⟨rfl, List.forall_mem_cons.2 ⟨rfl, fun _ h => (by cases h)⟩⟩⟩, List.Sublist.refl _⟩ ?_
      intro k hkn
      refine wc_seq ?_
      refine wc_seq ?_
      refine wc_region ?_
      refine wl_q (q_move rfl rfl) rfl rfl (by decide) ?_
      refine wl_q (q_move rfl rfl) rfl rfl (by decide) ?_
      refine wl_q (q_bin rfl rfl rfl rfl) rfl rfl (by decide) ?_
      refine wl_nil ?_
      refine fq_then ?_
      refine wc_cond rfl (fun h14 => ?_) (fun h14 => ?_)
      · skip
        have q14 := h14
        try simp only [decide_eq_true_eq, decide_eq_false_iff_not, beq_iff_eq, beq_eq_false_iff_ne, bne_iff_ne, ne_eq, bne_eq_false_iff_eq, Int.not_lt, Int.not_le] at q14
        refine wc_skip ?_
        refine fq_then ?_
        refine wc_seq ?_
        refine wc_block ?_
        refine wc_region ?_
        refine wl_q (q_move rfl rfl) rfl rfl (by decide) ?_
        refine wl_q (q_quo rfl rfl rfl (by decide)) rfl rfl (by decide) ?_
        refine wl_q (q_assign rfl rfl) rfl rfl (by decide) ?_
        refine wl_nil ?_
        refine fq_block ?_
        refine fq_then ?_
        refine wc_region ?_
        refine wl_q (q_move rfl rfl) rfl rfl (by decide) ?_
        refine wl_q (q_bin rfl rfl rfl rfl) rfl rfl (by decide) ?_
        refine wl_q (q_assign rfl rfl) rfl rfl (by decide) ?_
        refine wl_nil ?_
        refine fq_next (k + 1) (by omega) (by omega) ⟨List.forall_mem_cons.2 ⟨(congrArg (fun z => some (Value.int .u64 z)) (halve h0 h1 k)), List.forall_mem_cons.2 ⟨rfl, List.forall_mem_cons.2 ⟨(congrArg (fun z => some (Value.int .i64 z)) (wk1 (n := 64) (by omega) (by omega))), fun _ h => (by cases h)⟩⟩⟩, List.Sublist.refl _⟩
      · skip
        have q14 := h14
        try simp only [decide_eq_true_eq, decide_eq_false_iff_not, beq_iff_eq, beq_eq_false_iff_ne, bne_iff_ne, ne_eq, bne_eq_false_iff_eq, Int.not_lt, Int.not_le] at q14
        obtain rfl : car = k := by omega
        refine wc_exit ?_
        refine fq_then_exit ?_
        refine fq_then_exit ?_
        refine fq_block_hit ?_
        refine fq_then ?_
        refine wc_seq ?_
        refine wc_region ?_
        refine wl_q (q_move rfl rfl) rfl rfl (by decide) ?_
        refine wl_q (q_rem rfl rfl rfl (by decide)) rfl rfl (by decide) ?_
        refine wl_q (q_bin rfl rfl rfl rfl) rfl rfl (by decide) ?_
        refine wl_q (q_assign rfl rfl) rfl rfl (by decide) ?_
        refine wl_nil ?_
        refine fq_then ?_
        refine wc_ret ?_
        refine fq_ret1 rfl rfl (fun w1 H => ?_)
        refine ⟨congrArg (fun z => Ending.returned (Value.bool z)) ?_, H.toBelow (by simp)⟩
        unfold refHas
        first
          | (rw [if_pos (by omega)])
          | (rw [if_neg (by omega), Int.toNat_natCast, Int.tmod_eq_emod_of_nonneg (Int.ediv_nonneg h0 (by have : (0 : Int) < 2 ^ k := Int.pow_pos (by decide); omega))])

end Go.Proofs.YthpfhglncbkinaaDoor.SF
