/- Plain facts on calls: bits, counts, what Next tells (no statement stands here). -/
import Derived.Test.YthjmlmognbenoaaDoorPTwox12
import Derived.Test.YthjmlmognbenoaaDoorPTwox11
import Derived.Laws.BitsAllLaws
set_option linter.unusedVariables false
set_option linter.unusedSimpArgs false
namespace Go.Proofs.YthjmlmognbenoaaDoor.Pure
open Go.RowKit Go.Proofs.YthjmlmognbenoaaDoor.PTwo Go.Proofs.YthjmlmognbenoaaDoorW.PrintWords Go.Proofs.YthjmlmognbenoaaDoorW.PrintLast Go.Proofs.YthjmlmognbenoaaDoorW.PrintMore
open Go.Proofs.YthjmlmognbenoaaDoor.PAll (floL popN onesI onesL nextI bestOf stepB firstOf orElse floL_zero floL_step)

def bitN (f fl : Int) : Nat := if 0 ≤ f ∧ f < fl ∧ f < 32 then 2 ^ f.toNat else 0
def off (n b : Nat) : Nat := n &&& (4294967295 - b)
def cnt (n : Nat) : Nat := (floL n).length
def cntL (L : List Nat) : Nat := (L.map cnt).sum
def CI (L : List Nat) : List Int := L.map (fun n : Nat => (n : Int))

theorem pow_lt32 (f : Nat) (h : f < 32) : 2 ^ f < 4294967296 := by
  have : 2 ^ f < 2 ^ 32 := Nat.pow_lt_pow_right (by decide) h
  exact this
theorem bitN_lt (f fl : Int) : bitN f fl < 4294967296 := by
  unfold bitN
  split
  · exact pow_lt32 _ (by omega)
  · decide
theorem bit_ev (f fl : Int) : PAll.calls_bit.f f fl = some (bitN f fl : Int) := by
  unfold PAll.calls_bit.f bitN mn
  by_cases h0 : f < 0
  · rw [if_pos h0, if_neg (by omega)]; rfl
  · rw [if_neg h0]
    by_cases h1 : 0 ≤ f ∧ f < fl ∧ f < 32
    · have hp := pow_lt32 f.toNat (by omega)
      rw [if_pos h1, if_neg (by split <;> omega), if_pos (by omega)]
      unfold shl
      have e : min f.toNat IntKind.u32.bits = f.toNat := Nat.min_eq_left (by show f.toNat ≤ 32; omega)
      rw [e, IntKind.wrap_u32', Int.one_mul]
      have hc : ((2 : Int) ^ f.toNat) = ((2 ^ f.toNat : Nat) : Int) := by simp
      rw [hc]
      congr 1
      generalize 2 ^ f.toNat = q at hp ⊢
      omega
    · rw [if_neg h1, if_pos (by split <;> omega)]; rfl
theorem popN_len : ∀ k n, popN k n = ((List.range k).filter fun i => n.testBit i).length
  | 0, n => by simp [popN]
  | k + 1, n => by
    rw [List.range_succ_eq_map, List.filter_cons, List.filter_map]
    simp only [popN, List.length_map]
    rw [popN_len k (n / 2)]
    have e : ((fun i => n.testBit i) ∘ Nat.succ) = fun i => (n / 2).testBit i := by
      funext i
      simp [Nat.testBit_succ]
    rw [e]
    by_cases h : n % 2 = 1
    · have : n.testBit 0 = true := by rw [Nat.testBit_zero]; simp [h]
      rw [if_pos this]
      simp only [List.length_cons, List.length_map]
      omega
    · have : ¬ n.testBit 0 = true := by rw [Nat.testBit_zero]; simp [h]
      rw [if_neg this]
      simp only [List.length_map]
      omega
theorem ones_len (n : Nat) (h : n < 4294967296) : onesI (n : Int) = (cnt n : Int) := by
  rw [PAll.onesI_pop n h, popN_len]
  rfl
theorem onesL_len : ∀ (L : List Nat), (∀ x ∈ L, x < 4294967296) → onesL (CI L) = (cntL L : Int)
  | [], _ => by simp [onesL, CI, cntL]
  | x :: L, h => by
    have ih := onesL_len L (fun y hy => h y (List.mem_cons_of_mem _ hy))
    have hx := ones_len x (h x List.mem_cons_self)
    simp only [onesL, CI, cntL, List.map_cons, List.sum_cons] at ih ⊢
    rw [ih, hx]
    omega
theorem floL_nodup (n : Nat) : (floL n).Nodup := List.Nodup.sublist List.filter_sublist List.nodup_range
theorem mem_floL (n f : Nat) : f ∈ floL n ↔ f < 32 ∧ n.testBit f = true := by
  unfold floL
  rw [List.mem_filter, List.mem_range]
theorem cnt_le (n : Nat) : cnt n ≤ 32 := by
  have := List.length_filter_le (fun i => n.testBit i) (List.range 32)
  rw [List.length_range] at this
  exact this
theorem off_zero (n : Nat) (h : n < 4294967296) : off n 0 = n := by
  unfold off
  have e : n &&& (2 ^ 32 - 1) = n % 2 ^ 32 := Nat.and_two_pow_sub_one_eq_mod n 32
  rw [show 4294967295 - 0 = 2 ^ 32 - 1 from rfl, e]
  omega
theorem off_le (n b : Nat) : off n b ≤ n := Nat.and_le_left
theorem off_bits (n f i : Nat) (hf : f < 32) (hi : i < 32) : (off n (2 ^ f)).testBit i = (n.testBit i && decide (i ≠ f)) := by
  unfold off
  have hp := pow_lt32 f hf
  rw [Nat.testBit_and, show 4294967295 - 2 ^ f = 2 ^ 32 - (2 ^ f + 1) by omega, Nat.testBit_two_pow_sub_succ (by omega), Nat.testBit_two_pow]
  simp [hi, eq_comm]
theorem floL_off (n f : Nat) (hf : f < 32) : floL (off n (2 ^ f)) = (floL n).filter (fun i => decide (i ≠ f)) := by
  unfold floL
  rw [List.filter_filter]
  apply List.filter_congr
  intro i hi
  rw [off_bits n f i hf (List.mem_range.1 hi), Bool.and_comm]
theorem filter_ne_len (l : List Nat) (hn : l.Nodup) (f : Nat) : (l.filter fun i => decide (i ≠ f)).length = if f ∈ l then l.length - 1 else l.length := by
  induction l with
  | nil => simp
  | cons a l ih =>
    rw [List.nodup_cons] at hn
    have ih := ih hn.2
    rw [List.filter_cons]
    by_cases h : a = f
    · subst h
      have e : (List.filter (fun i => decide (i ≠ a)) l) = l := by
        rw [List.filter_eq_self]
        intro b hb
        simp only [decide_eq_true_eq]
        intro e
        subst e
        exact hn.1 hb
      rw [if_neg (by simp), e, if_pos List.mem_cons_self]
      simp
    · have h' : ¬ f = a := fun e => h e.symm
      by_cases hm : f ∈ l
      · rw [if_pos hm] at ih
        have hl : 0 < l.length := List.length_pos_of_mem hm
        simp only [ne_eq, h, not_false_iff, decide_true, if_true, List.length_cons, List.mem_cons, h', hm, or_true] at ih ⊢
        omega
      · rw [if_neg hm] at ih
        simp only [ne_eq, h, not_false_iff, decide_true, if_true, List.length_cons, List.mem_cons, h', hm, or_false, if_false] at ih ⊢
        omega
theorem cnt_off (n f : Nat) (hf : f < 32) : cnt (off n (2 ^ f)) = if f ∈ floL n then cnt n - 1 else cnt n := by
  unfold cnt
  rw [floL_off n f hf]
  exact filter_ne_len _ (floL_nodup n) f
theorem cnt_off_le (n f : Nat) (hf : f < 32) : cnt (off n (2 ^ f)) ≤ cnt n := by
  rw [cnt_off n f hf]; split <;> omega
theorem or_bits (n f i : Nat) : (n ||| 2 ^ f).testBit i = (n.testBit i || decide (i = f)) := by
  rw [Nat.testBit_or, Nat.testBit_two_pow]
  simp [eq_comm]
theorem or_lt (n b : Nat) (hn : n < 4294967296) (hb : b < 4294967296) : n ||| b < 4294967296 := Nat.or_lt_two_pow (n := 32) hn hb
theorem mem_or (n f i : Nat) (hf : f < 32) : i ∈ floL (n ||| 2 ^ f) ↔ i ∈ floL n ∨ i = f := by
  rw [mem_floL, mem_floL, or_bits]
  simp only [Bool.or_eq_true, decide_eq_true_eq]
  constructor
  · rintro ⟨h1, h2 | h2⟩
    · exact .inl ⟨h1, h2⟩
    · exact .inr h2
  · rintro (⟨h1, h2⟩ | h2)
    · exact ⟨h1, .inl h2⟩
    · subst h2; exact ⟨hf, .inr rfl⟩
theorem floL_nil (n : Nat) (h : n < 4294967296) : floL n = [] ↔ n = 0 := by
  constructor
  · intro e
    rcases Nat.eq_zero_or_pos n with h0 | h0
    · exact h0
    · rw [floL_step n h0 h] at e; cases e
  · rintro rfl; exact floL_zero
theorem off_or (n f : Nat) (hf : f < 32) : floL (off (n ||| 2 ^ f) (2 ^ f)) = floL (off n (2 ^ f)) := by
  unfold floL
  apply List.filter_congr
  intro i hi
  rw [off_bits _ f i hf (List.mem_range.1 hi), off_bits _ f i hf (List.mem_range.1 hi), or_bits]
  by_cases h : i = f <;> simp [h]
theorem cnt_or (n f : Nat) (hf : f < 32) : cnt (n ||| 2 ^ f) = if f ∈ floL n then cnt n else cnt n + 1 := by
  have h1 := cnt_off (n ||| 2 ^ f) f hf
  have h2 := cnt_off n f hf
  rw [if_pos ((mem_or n f f hf).2 (.inr rfl))] at h1
  have h3 : cnt (off (n ||| 2 ^ f) (2 ^ f)) = cnt (off n (2 ^ f)) := by unfold cnt; rw [off_or n f hf]
  have h4 : 0 < cnt (n ||| 2 ^ f) := List.length_pos_of_mem ((mem_or n f f hf).2 (.inr rfl))
  by_cases hm : f ∈ floL n
  · rw [if_pos hm] at h2 ⊢
    have h5 : 0 < cnt n := List.length_pos_of_mem hm
    omega
  · rw [if_neg hm] at h2 ⊢
    omega
theorem or_same (n f : Nat) (hf : f < 32) (hm : f ∈ floL n) : n ||| 2 ^ f = n := by
  apply Nat.eq_of_testBit_eq
  intro i
  rw [or_bits]
  by_cases h : i = f
  · subst h; rw [((mem_floL n i).1 hm).2]; rfl
  · simp [h]
theorem off_same (n f : Nat) (hf : f < 32) (hn : n < 4294967296) (hm : f ∉ floL n) : off n (2 ^ f) = n := by
  apply Nat.eq_of_testBit_eq
  intro i
  by_cases hi : i < 32
  · rw [off_bits n f i hf hi]
    by_cases h : i = f
    · subst h
      have : n.testBit i = false := by
        cases e : n.testBit i
        · rfl
        · exact absurd ((mem_floL n i).2 ⟨hi, e⟩) hm
      simp [this]
    · simp [h]
  · have h1 : n.testBit i = false := Nat.testBit_lt_two_pow (Nat.lt_of_lt_of_le hn (Nat.pow_le_pow_right (by decide) (by omega) : 2 ^ 32 ≤ 2 ^ i))
    have h2 : (off n (2 ^ f)).testBit i = false := Nat.testBit_lt_two_pow (Nat.lt_of_le_of_lt (off_le _ _) (Nat.lt_of_lt_of_le hn (Nat.pow_le_pow_right (by decide) (by omega) : 2 ^ 32 ≤ 2 ^ i)))
    rw [h1, h2]
/-! ### what the functions tell -/
theorem CI_len (L : List Nat) : (CI L).length = L.length := by simp [CI]
theorem CI_rd (L : List Nat) (k : Nat) : rd (CI L) (k : Int) = ((L.getD k 0 : Nat) : Int) := by
  unfold rd CI
  rw [Int.toNat_natCast, List.getD_eq_getElem?_getD, List.getD_eq_getElem?_getD, List.getElem?_map]
  cases L[k]? <;> rfl
theorem CI_rdOf (L : List Nat) (k : Nat) : rdOf 0 (CI L) (k : Int) = ((L.getD k 0 : Nat) : Int) := by
  unfold rdOf CI
  rw [Int.toNat_natCast, List.getD_eq_getElem?_getD, List.getD_eq_getElem?_getD, List.getElem?_map]
  cases L[k]? <;> rfl
theorem CI_set (L : List Nat) (k v : Nat) : (CI L).set k (v : Int) = CI (L.set k v) := by
  unfold CI; rw [List.map_set]
def Ok (L : List Nat) : Prop := L.length ≤ 1000000 ∧ ∀ x ∈ L, x < 4294967296
theorem Ok.get {L : List Nat} (h : Ok L) (k : Nat) : L.getD k 0 < 4294967296 := by
  rw [List.getD_eq_getElem?_getD]
  cases e : L[k]? with
  | none => decide
  | some x => exact h.2 x (List.mem_of_getElem? e)
theorem Ok.set {L : List Nat} (h : Ok L) (k v : Nat) (hv : v < 4294967296) : Ok (L.set k v) := by
  refine ⟨by rw [List.length_set]; exact h.1, fun x hx => ?_⟩
  rcases List.mem_or_eq_of_mem_set hx with h1 | h1
  · exact h.2 x h1
  · subst h1; exact hv
theorem hall_ev (h : Nat) (L : List Nat) (f fl : Int) (hh : h < 4294967296) (hL : L.length ≤ 1000000) : calls_Calls_Hall.f (h : Int) (CI L) f fl = some (((h ||| bitN f fl : Nat) : Int), CI L, (bitN f fl : Int) != 0) := by
  unfold calls_Calls_Hall.f
  rw [if_pos (by rw [CI_len]; exact hL), bit_ev, Option.bind_some, u32_or_nat _ _ hh (bitN_lt f fl)]
theorem car_ev (h : Nat) (L : List Nat) (c f fl : Int) (hL : Ok L) : calls_Calls_Car.f (h : Int) (CI L) c f fl = if bitN f fl = 0 then some ((h : Int), CI L, false) else if 0 ≤ c ∧ c < (L.length : Int) then some ((h : Int), CI (L.set c.toNat (L.getD c.toNat 0 ||| bitN f fl)), true) else some ((h : Int), CI L, false) := by
  unfold calls_Calls_Car.f
  rw [if_pos (by rw [CI_len]; exact hL.1), bit_ev, Option.bind_some, CI_len]
  by_cases h0 : bitN f fl = 0
  · rw [if_pos h0, if_pos (by omega)]
  · rw [if_neg h0, if_neg (by omega)]
    by_cases h1 : 0 ≤ c ∧ c < (L.length : Int)
    · rw [if_pos h1, if_pos h1]
      obtain ⟨k, rfl⟩ := Int.eq_ofNat_of_zero_le h1.1
      rw [CI_rdOf, Int.toNat_natCast, u32_or_nat _ _ (hL.get k) (bitN_lt f fl), CI_set]
    · rw [if_neg h1, if_neg h1]
theorem done_ev (h : Nat) (L : List Nat) (c f : Int) (hh : Bool) (h1 : h < 4294967296) (hL : Ok L) : calls_Calls_Done.f (h : Int) (CI L) c f hh = some (((cond hh (off h (bitN f 32)) h : Nat) : Int), CI (if 0 ≤ c ∧ c < (L.length : Int) then L.set c.toNat (off (L.getD c.toNat 0) (bitN f 32)) else L)) := by
  unfold calls_Calls_Done.f
  have hd : PAll.hallsD (h : Int) (bitN f 32 : Int) hh = ((cond hh (off h (bitN f 32)) h : Nat) : Int) := by
    cases hh
    · rfl
    · exact u32_andNot_nat _ _ h1 (bitN_lt f 32)
  rw [if_pos (by rw [CI_len]; exact hL.1), bit_ev, Option.bind_some, CI_len, hd]
  by_cases h2 : 0 ≤ c ∧ c < (L.length : Int)
  · rw [if_pos h2, if_pos h2]
    obtain ⟨k, rfl⟩ := Int.eq_ofNat_of_zero_le h2.1
    rw [CI_rdOf, Int.toNat_natCast, u32_andNot_nat _ _ (hL.get k) (bitN_lt f 32), CI_set]
    rfl
  · rw [if_neg h2, if_neg h2]
theorem many_ev (h : Nat) (L : List Nat) (h1 : h < 4294967296) (hL : Ok L) : calls_Calls_Many.f (h : Int) (CI L) = some ((cnt h + cntL L : Nat) : Int) := by
  unfold calls_Calls_Many.f
  rw [if_pos ⟨by rw [CI_len]; exact hL.1, ⟨by omega, by omega⟩, fun x hx => by
    unfold CI at hx
    obtain ⟨y, hy, rfl⟩ := List.mem_map.1 hx
    have := hL.2 y hy
    omega⟩, ones_len h h1, onesL_len L hL.2]
  congr 1
theorem next_ev (h : Nat) (L : List Nat) (c p : Int) (hs : Nat) (h1 : h < 4294967296) (h2 : hs < 4294967296) (hL : Ok L) (hp : 0 ≤ p ∧ p ≤ 1000000) : calls_Calls_Next.f (h : Int) (CI L) c p (hs : Int) = some (if 0 ≤ c ∧ c < (L.length : Int) then nextI (L.getD c.toNat 0) (h &&& hs) p else -1) := by
  unfold calls_Calls_Next.f PAll.nextF
  rw [if_pos (by rw [CI_len]; exact hL.1), CI_len]
  by_cases hc : 0 ≤ c ∧ c < (L.length : Int)
  · rw [if_pos hc, if_pos hc]
    obtain ⟨k, rfl⟩ := Int.eq_ofNat_of_zero_le hc.1
    have := hL.get k
    rw [CI_rd, if_pos ⟨hp, by omega, by omega⟩, u32_and_nat _ _ h1 h2]
    rfl
  · rw [if_neg hc, if_neg hc]
/-! ### Next -/
def dist (p : Int) (f : Nat) : Int := max ((f : Int) * 8 - p) (p - (f : Int) * 8)
theorem best_spec (p : Int) : ∀ (l : List Nat) (s : Int × Int), (s.1 = -1 ∨ 0 ≤ s.1) →
    (l.foldl (stepB p) s = s ∧ (∀ g ∈ l, s.1 ≠ -1 ∧ s.2 ≤ dist p g)) ∨ (∃ f ∈ l, l.foldl (stepB p) s = ((f : Int), dist p f) ∧ (∀ g ∈ l, dist p f ≤ dist p g) ∧ (s.1 = -1 ∨ dist p f < s.2))
  | [], s, _ => .inl ⟨rfl, by simp⟩
  | a :: l, s, hs => by
    rw [List.foldl_cons]
    by_cases h : s.1 = -1 ∨ dist p a < s.2
    · have e : stepB p s a = ((a : Int), dist p a) := by unfold stepB; exact if_pos h
      rw [e]
      right
      rcases best_spec p l ((a : Int), dist p a) (.inr (by simp)) with ⟨h1, h2⟩ | ⟨f, hf, h1, h2, h3⟩
      · refine ⟨a, List.mem_cons_self, h1, fun g hg => ?_, h⟩
        rcases List.mem_cons.1 hg with rfl | hg
        · exact Int.le_refl _
        · exact (h2 g hg).2
      · refine ⟨f, List.mem_cons_of_mem _ hf, h1, fun g hg => ?_, ?_⟩
        · rcases List.mem_cons.1 hg with rfl | hg
          · rcases h3 with h3 | h3
            · simp only at h3; omega
            · simp only at h3; omega
          · exact h2 g hg
        · rcases h with h | h
          · exact .inl h
          · right
            rcases h3 with h3 | h3
            · simp only at h3; omega
            · simp only at h3; omega
    · have e : stepB p s a = s := by unfold stepB; exact if_neg h
      rw [e]
      rcases best_spec p l s hs with ⟨h1, h2⟩ | ⟨f, hf, h1, h2, h3⟩
      · left
        refine ⟨h1, fun g hg => ?_⟩
        rcases List.mem_cons.1 hg with rfl | hg
        · exact ⟨fun e => h (.inl e), by have : ¬ dist p g < s.2 := fun e => h (.inr e); omega⟩
        · exact h2 g hg
      · right
        refine ⟨f, List.mem_cons_of_mem _ hf, h1, fun g hg => ?_, h3⟩
        rcases List.mem_cons.1 hg with rfl | hg
        · have : ¬ dist p g < s.2 := fun e => h (.inr e)
          rcases h3 with h3 | h3
          · exact absurd (.inl h3) h
          · omega
        · exact h2 g hg
theorem nextI_own (x y : Nat) (p : Int) (hx : floL x ≠ []) : ∃ f ∈ floL x, nextI x y p = (f : Int) ∧ ∀ g ∈ floL x, dist p f ≤ dist p g := by
  rcases best_spec p (floL x) (-1, 0) (.inl rfl) with ⟨h1, h2⟩ | ⟨f, hf, h1, h2, _⟩
  · exfalso
    cases e : floL x with
    | nil => exact hx e
    | cons a l => rw [e] at h2; exact (h2 a List.mem_cons_self).1 rfl
  · refine ⟨f, hf, ?_, h2⟩
    exact PAll.nextI_some h1 (by omega)
theorem nextI_halls (x y : Nat) (p : Int) (hx : floL x = []) : nextI x y p = firstOf (floL y) := by
  refine PAll.nextI_none (d := 0) ?_ rfl
  rw [hx]; rfl
theorem floL_sorted (n : Nat) : (floL n).Pairwise (· < ·) := List.Pairwise.sublist List.filter_sublist List.pairwise_lt_range
theorem nextI_none' (p : Int) : nextI 0 0 p = -1 := by rw [nextI_halls 0 0 p floL_zero, floL_zero]; rfl
theorem and_all (n : Nat) (h : n < 4294967296) : n &&& 4294967295 = n := by
  have e : n &&& (2 ^ 32 - 1) = n % 2 ^ 32 := Nat.and_two_pow_sub_one_eq_mod n 32
  rw [show 4294967295 = 2 ^ 32 - 1 from rfl, e]
  omega
theorem cntL_set : ∀ (L : List Nat) (k v : Nat), k < L.length → cntL (L.set k v) + cnt (L.getD k 0) = cntL L + cnt v
  | [], k, v, h => by simp at h
  | x :: L, 0, v, _ => by simp [cntL]; omega
  | x :: L, k + 1, v, h => by
    have ih := cntL_set L k v (by simpa using h)
    simp only [cntL, List.set_cons_succ, List.map_cons, List.sum_cons, List.getD_cons_succ] at ih ⊢
    omega
theorem cntL_zero (n : Nat) : cntL (List.replicate n 0) = 0 := by
  have h0 : cnt 0 = 0 := by unfold cnt; rw [floL_zero]; rfl
  induction n with
  | zero => rfl
  | succ n ih => simp only [cntL, List.replicate_succ, List.map_cons, List.sum_cons, h0] at ih ⊢; omega
theorem awake_true : paternosterlaw22_awake.f = some true := by decide +kernel
theorem CI_of (l : List Int) (h : ∀ x ∈ l, 0 ≤ x ∧ x < 4294967296) : ∃ L : List Nat, l = CI L ∧ (∀ x ∈ L, x < 4294967296) ∧ L.length = l.length := by
  refine ⟨l.map Int.toNat, ?_, fun x hx => ?_, by simp⟩
  · unfold CI
    rw [List.map_map]
    conv => lhs; rw [← List.map_id l]
    apply List.map_congr_left
    intro x hx
    have := h x hx
    simp only [id_eq, Function.comp_apply]
    omega
  · obtain ⟨y, hy, rfl⟩ := List.mem_map.1 hx
    have := h y hy
    omega
theorem w64s (x : Int) (h : -9223372036854775808 ≤ x ∧ x < 9223372036854775808) : wrap64 x = x := by unfold wrap64; omega
theorem all_u64 (f : Nat) (h : f < 32) : IntKind.u64.wrap (f : Int) = (f : Int) := by
  simp [IntKind.wrap, IntKind.bits, IntKind.signed]
  omega
theorem shr_bit (x f : Nat) (hf : f < 32) (hx : x < 4294967296) : Go.bits .and .u32 (shr .u32 (x : Int) (f : Int)) 1 = if x.testBit f then 1 else 0 := by
  have e : shr .u32 (x : Int) (f : Int) = ((x / 2 ^ f : Nat) : Int) := by
    unfold shr
    rw [Int.toNat_natCast, show min f IntKind.u32.bits = f from Nat.min_eq_left (by show f ≤ 32; omega)]
    rw [Int.natCast_ediv]
    simp
  have hlt : x / 2 ^ f < 4294967296 := Nat.lt_of_le_of_lt (Nat.div_le_self _ _) hx
  rw [e, show (1 : Int) = ((1 : Nat) : Int) from rfl, u32_and_nat _ _ hlt (by decide), Nat.and_one_is_mod]
  rw [Nat.testBit_eq_decide_div_mod_eq]
  have := Nat.mod_lt (x / 2 ^ f) (show 0 < 2 by decide)
  by_cases h : x / 2 ^ f % 2 = 1
  · rw [h]; simp
  · rw [show x / 2 ^ f % 2 = 0 by omega]; simp
theorem bitN_at (f : Nat) (hf : f < 32) : bitN (f : Int) 32 = 2 ^ f := by
  unfold bitN
  rw [if_pos (by omega), Int.toNat_natCast]
theorem pos_range (a : Int) (h : (Lit.int .u8 a).wf = true) : 0 ≤ Int.tmod (wrap64 a) 249 ∧ Int.tmod (wrap64 a) 249 ≤ 248 := by
  simp [Lit.wf, IntKind.min, IntKind.max, IntKind.signed, IntKind.bits] at h
  rw [w64s a (by omega), Int.tmod_eq_emod_of_nonneg (by omega)]
  omega
theorem u32_nat (a : Int) (h : (Lit.int .u32 a).wf = true) : ∃ n : Nat, a = n ∧ n < 4294967296 := by
  simp [Lit.wf, IntKind.min, IntKind.max, IntKind.signed, IntKind.bits] at h
  exact ⟨a.toNat, by omega, by omega⟩
abbrev Z (n : Nat) : List Nat := List.replicate n 0
theorem Z_ok (n : Nat) (h : n ≤ 64) : Ok (Z n) := ⟨by rw [List.length_replicate]; omega, fun x hx => by have := List.eq_of_mem_replicate hx; omega⟩
theorem cnt_zero : cnt 0 = 0 := by unfold cnt; rw [floL_zero]; rfl
theorem cnt_pow (f : Nat) (hf : f < 32) : cnt (2 ^ f) = 1 := by
  have h := cnt_or 0 f hf
  rw [Nat.zero_or, cnt_zero, if_neg (by rw [floL_zero]; simp)] at h
  exact h
theorem cnt_bit (f fl : Int) : cnt (bitN f fl) = if bitN f fl = 0 then 0 else 1 := by
  by_cases h : bitN f fl = 0
  · rw [if_pos h, h, cnt_zero]
  · rw [if_neg h]
    unfold bitN at h ⊢
    split
    · exact cnt_pow _ (by omega)
    · rename_i hc; rw [if_neg hc] at h; exact absurd rfl h
theorem new_ev (a : Int) : ∃ n : Nat, calls_New.f a = some (0, CI (Z n)) ∧ n ≤ 64 ∧ (a = n ∨ n = 0) ∧ n = (if a < 0 ∨ a > 64 then 0 else a.toNat) := by
  unfold calls_New.f
  have e : ∀ n, List.replicate n (0 : Int) = CI (Z n) := fun n => by simp [CI, Z]
  by_cases h1 : a < 0
  · rw [if_pos h1, if_pos (by decide)]
    exact ⟨0, by rw [e], by decide, .inr rfl, by rw [if_pos (.inl h1)]⟩
  · rw [if_neg h1]
    by_cases h2 : a > 64
    · rw [if_pos h2, if_pos (by decide)]
      exact ⟨0, by rw [e], by decide, .inr rfl, by rw [if_pos (.inr h2)]⟩
    · rw [if_neg h2, if_pos (by omega), if_pos (by omega)]
      exact ⟨a.toNat, by rw [e], by omega, .inl (by omega), by rw [if_neg (by omega)]⟩
theorem mx_max (a b : Int) : mx a b = max a b := by
  unfold mx; split <;> omega
theorem far_ev (p : Int) (f : Nat) (hp : 0 ≤ p ∧ p ≤ 1000000) (hf : f < 32) : mx (wrap64 ((wrap64 (8 * (f : Int))) - p)) (wrap64 (p - (wrap64 (8 * (f : Int))))) = dist p f := by
  rw [w64s (8 * (f : Int)) (by omega), w64s _ (by omega), w64s _ (by omega), mx_max]
  unfold dist
  omega
theorem firstOf_mem (l : List Nat) : (l = [] ∧ firstOf l = -1) ∨ ∃ f ∈ l, firstOf l = (f : Int) := by
  cases l with
  | nil => exact .inl ⟨rfl, rfl⟩
  | cons f r => exact .inr ⟨f, List.mem_cons_self, rfl⟩
/-- What Next tells is none, or a floor of the car's, or one of the halls where the car has none. -/
theorem nextI_cases (x y : Nat) (p : Int) : (floL x = [] ∧ floL y = [] ∧ nextI x y p = -1) ∨ (∃ f ∈ floL x, nextI x y p = (f : Int) ∧ ∀ g ∈ floL x, dist p f ≤ dist p g) ∨ (floL x = [] ∧ ∃ f ∈ floL y, nextI x y p = (f : Int)) := by
  by_cases hx : floL x = []
  · rcases firstOf_mem (floL y) with ⟨h1, h2⟩ | ⟨f, h1, h2⟩
    · exact .inl ⟨hx, h1, by rw [nextI_halls x y p hx, h2]⟩
    · exact .inr (.inr ⟨hx, f, h1, by rw [nextI_halls x y p hx, h2]⟩)
  · exact .inr (.inl (nextI_own x y p hx))
end Go.Proofs.YthjmlmognbenoaaDoor.Pure
