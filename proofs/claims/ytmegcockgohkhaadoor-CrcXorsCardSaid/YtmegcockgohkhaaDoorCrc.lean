/- Plain lemmas on the sum (no program in sight, no statement stands here). -/
import Derived.Test.YtmegcockgohkhaaDoorPAllx1
import Derived.Laws.BitsLemmas
set_option linter.unusedVariables false
set_option linter.unusedSimpArgs false
namespace Go.Proofs.YtmegcockgohkhaaDoor.Pure
open Go.RowKit Go.Proofs.YtmegcockgohkhaaDoor.PAll Go.Proofs.YtmegcockgohkhaaDoorW.PrintWords

abbrev B32 := BitVec 32
theorem xlc (a b c : B32) : a ^^^ (b ^^^ c) = b ^^^ (a ^^^ c) := by rw [← BitVec.xor_assoc, BitVec.xor_comm a b, BitVec.xor_assoc]
theorem shr_add (v : B32) (n m : Nat) : v >>> n >>> m = v >>> (n + m) := by
  apply BitVec.eq_of_toNat_eq
  simp only [BitVec.toNat_ushiftRight, Nat.shiftRight_add]
/-- One bit's step. -/
def bit1 (x : B32) : B32 := (x >>> 1) ^^^ (if x.getLsbD 0 then 0xEDB88320#32 else 0#32)
theorem bit1_xor (x y : B32) : bit1 (x ^^^ y) = bit1 x ^^^ bit1 y := by
  unfold bit1
  rw [BitVec.ushiftRight_xor_distrib, BitVec.getLsbD_xor]
  generalize x >>> 1 = a
  generalize y >>> 1 = b
  rcases x.getLsbD 0 <;> rcases y.getLsbD 0 <;> simp
  · rw [BitVec.xor_assoc]
  · rw [BitVec.xor_assoc, BitVec.xor_assoc, BitVec.xor_comm b]
  · rw [BitVec.xor_assoc, xlc _ b, BitVec.xor_self, BitVec.xor_zero]
theorem bit1_zero : bit1 0#32 = 0#32 := by decide
def itb : Nat → B32 → B32
  | 0, x => x
  | n + 1, x => itb n (bit1 x)
theorem itb_xor (n : Nat) : ∀ x y, itb n (x ^^^ y) = itb n x ^^^ itb n y := by
  induction n with
  | zero => intros; rfl
  | succ n ih => intro x y; simp only [itb, bit1_xor, ih]
theorem itb_zero (n : Nat) : itb n 0#32 = 0#32 := by
  induction n with
  | zero => rfl
  | succ n ih => simp only [itb, bit1_zero, ih]
theorem itb_add (m n : Nat) (x : B32) : itb n (itb m x) = itb (m + n) x := by
  induction m generalizing x with
  | zero => simp [itb]
  | succ m ih => rw [Nat.succ_add]; simp only [itb, ih]
theorem itb_succ (n : Nat) (x : B32) : itb (n + 1) x = bit1 (itb n x) := by
  have := itb_add n 1 x
  simp only [itb] at this
  exact this.symm
theorem bit1_low (x : B32) (h : x.getLsbD 0 = false) : bit1 x = x >>> 1 := by unfold bit1; rw [h]; simp
theorem bit1_inj (x : B32) (h : bit1 x = 0#32) : x = 0#32 := by
  unfold bit1 at h
  rcases hx : x.getLsbD 0 with _ | _
  · rw [hx] at h
    simp at h
    apply BitVec.eq_of_getLsbD_eq
    intro i hi
    rcases i with _ | i
    · simpa using hx
    · have := congrArg (fun v : B32 => v.getLsbD i) h
      simp at this
      simpa [Nat.add_comm] using this
  · rw [hx] at h
    exfalso
    have := congrArg (fun v : B32 => v.getLsbD 31) h
    simp at this
theorem itb_inj (n : Nat) : ∀ x, itb n x = 0#32 → x = 0#32 := by
  induction n with
  | zero => intro x h; exact h
  | succ n ih => intro x h; exact bit1_inj x (ih _ h)

/-- The register behind bits, the first one first. -/
def one (b : Bool) : B32 := if b then 1#32 else 0#32
def Rb (x : B32) (l : List Bool) : B32 := l.foldl (fun x b => bit1 (x ^^^ one b)) x
theorem Rb_append (x : B32) (a b : List Bool) : Rb x (a ++ b) = Rb (Rb x a) b := by simp [Rb]
theorem one_xor (a b : Bool) : one (a ^^ b) = one a ^^^ one b := by cases a <;> cases b <;> decide
theorem Rb_xor : ∀ (a b : List Bool) (x y : B32), a.length = b.length → Rb (x ^^^ y) (List.zipWith (· ^^ ·) a b) = Rb x a ^^^ Rb y b := by
  intro a
  induction a with
  | nil => intro b x y h; cases b with | nil => rfl | cons _ _ => simp at h
  | cons p a ih =>
    intro b x y h
    cases b with
    | nil => simp at h
    | cons q b =>
      have := ih b (bit1 (x ^^^ one p)) (bit1 (y ^^^ one q)) (by simpa using h)
      simp only [Rb, List.zipWith_cons_cons, List.foldl_cons] at this ⊢
      rw [← this, ← bit1_xor, one_xor]
      congr 2
      rw [BitVec.xor_assoc, BitVec.xor_assoc]; congr 1; exact xlc _ _ _
theorem Rb_zeros (n : Nat) (x : B32) : Rb x (List.replicate n false) = itb n x := by
  induction n generalizing x with
  | zero => rfl
  | succ n ih => rw [List.replicate_succ]; show Rb (bit1 (x ^^^ one false)) _ = _; rw [ih]; simp [one, itb]

/-- The bits of a word, the lowest first. -/
def bitsOf (n : Nat) (v : B32) : List Bool := (List.range n).map v.getLsbD
theorem Rb_bits (v x : B32) (n : Nat) : Rb x (bitsOf n v) = itb n (x ^^^ v) ^^^ (v >>> n) := by
  induction n with
  | zero => simp [bitsOf, Rb, itb, BitVec.xor_assoc]
  | succ n ih =>
    have e : bitsOf (n + 1) v = bitsOf n v ++ [v.getLsbD n] := by simp [bitsOf, List.range_succ]
    rw [e, Rb_append, ih, itb_succ]
    show bit1 (itb n (x ^^^ v) ^^^ v >>> n ^^^ one (v.getLsbD n)) = _
    rw [BitVec.xor_assoc, bit1_xor]
    congr 1
    have hl : (v >>> n ^^^ one (v.getLsbD n)).getLsbD 0 = false := by
      rw [BitVec.getLsbD_xor, BitVec.getLsbD_ushiftRight, Nat.add_zero]
      rcases v.getLsbD n <;> simp [one]
    rw [bit1_low _ hl, BitVec.ushiftRight_xor_distrib, shr_add]
    have hz : one (v.getLsbD n) >>> 1 = 0#32 := by rcases v.getLsbD n <;> decide
    rw [hz, BitVec.xor_zero]

/-! Whole numbers and words -/
def bv (x : Int) : B32 := BitVec.ofInt 32 x
theorem bits_bv (x y : Int) : Go.bits .xor .u32 x y = ((bv x ^^^ bv y).toNat : Int) := by
  have e : Go.bits .xor .u32 x y = IntKind.u32.wrap ((bv x ^^^ bv y).toNat : Int) := rfl
  rw [e, IntKind.wrap_u32]
  have := (bv x ^^^ bv y).isLt
  omega
theorem bv_nat (v : B32) : bv (v.toNat : Int) = v := by
  unfold bv; rw [BitVec.ofInt_natCast, BitVec.ofNat_toNat, BitVec.setWidth_eq]
theorem bv_mod (c : Int) : bv (c % 4294967296) = bv c := by
  apply BitVec.eq_of_toNat_eq
  unfold bv
  rw [BitVec.toNat_ofInt, BitVec.toNat_ofInt]
  congr 1
  exact Int.emod_emod_of_dvd _ (by decide)
theorem half_fin : ∀ i : Fin 16, halfL.getD i.val 0 = ((itb 4 (BitVec.ofNat 32 i.val)).toNat : Int) := by decide +kernel
theorem nib_bv (v : B32) : crcNib (v.toNat : Int) = ((itb 4 v).toNat : Int) := by
  have h15 : (v &&& 15#32).toNat = v.toNat % 16 := by rw [BitVec.toNat_and]; exact Nat.and_two_pow_sub_one_eq_mod v.toNat 4
  have hand : Go.bits .and .u32 (v.toNat : Int) 15 = ((v.toNat % 16 : Nat) : Int) := by
    have e : Go.bits .and .u32 (v.toNat : Int) 15 = IntKind.u32.wrap ((bv (v.toNat : Int) &&& 15#32).toNat : Int) := rfl
    rw [e, bv_nat, h15, IntKind.wrap_u32]; omega
  have hlt : v.toNat % 16 < 16 := Nat.mod_lt _ (by decide)
  unfold crcNib halfI
  rw [hand, Int.toNat_natCast, half_fin ⟨v.toNat % 16, hlt⟩, bits_bv, bv_nat]
  congr 2
  have hlo : BitVec.ofNat 32 (v.toNat % 16) = v &&& 15#32 := by
    apply BitVec.eq_of_toNat_eq; rw [h15, BitVec.toNat_ofNat, Nat.mod_eq_of_lt (by omega)]
  rw [hlo]
  have hdiv : bv ((v.toNat : Int) / 16) = v >>> 4 := by
    apply BitVec.eq_of_toNat_eq
    have e : ((v.toNat : Int) / 16) = ((v.toNat / 16 : Nat) : Int) := by omega
    rw [e]; unfold bv
    rw [BitVec.ofInt_natCast, BitVec.toNat_ofNat, BitVec.toNat_ushiftRight, Nat.shiftRight_eq_div_pow]
    have := v.isLt
    rw [Nat.mod_eq_of_lt (by omega)]
  rw [hdiv]
  have h0 := Rb_bits v 0#32 4
  have h1 := Rb_bits (v &&& 15#32) 0#32 4
  have hb : bitsOf 4 v = bitsOf 4 (v &&& 15#32) := by
    simp only [bitsOf]
    apply List.map_congr_left
    intro i hi
    simp only [List.mem_range] at hi
    rw [BitVec.getLsbD_and]
    rcases (show i = 0 ∨ i = 1 ∨ i = 2 ∨ i = 3 by omega) with rfl | rfl | rfl | rfl <;> simp
  have hz : (v &&& 15#32) >>> 4 = 0#32 := by
    apply BitVec.eq_of_toNat_eq
    rw [BitVec.toNat_ushiftRight, h15, Nat.shiftRight_eq_div_pow, BitVec.toNat_ofNat]
    omega
  rw [hz, BitVec.xor_zero] at h1
  rw [hb, h1, BitVec.zero_xor, BitVec.zero_xor] at h0
  rw [h0, BitVec.xor_comm, BitVec.xor_assoc, BitVec.xor_self, BitVec.xor_zero]
theorem byte_bv (v : B32) (c : Int) : crcByte (v.toNat : Int) c = ((itb 8 (v ^^^ bv c)).toNat : Int) := by
  unfold crcByte
  rw [bits_bv, bv_nat, bv_mod, nib_bv, nib_bv, itb_add]

/-- The bits of bytes. -/
def B (l : List Int) : List Bool := l.flatMap fun c => bitsOf 8 (bv c)
theorem B_append (a b : List Int) : B (a ++ b) = B a ++ B b := by simp [B]
theorem B_length (l : List Int) : (B l).length = 8 * l.length := by
  induction l with
  | nil => rfl
  | cons a l ih => simp only [B, List.flatMap_cons, List.length_append, List.length_cons] at ih ⊢; rw [ih]; simp [bitsOf]; omega
theorem row_bv (l : List Int) (hb : ∀ x ∈ l, 0 ≤ x ∧ x ≤ 255) : ∀ v : B32, crcRow (v.toNat : Int) l = ((Rb v (B l)).toNat : Int) := by
  induction l with
  | nil => intro v; rfl
  | cons c l ih =>
    intro v
    have h := ih (fun x hx => hb x (List.mem_cons_of_mem _ hx)) (itb 8 (v ^^^ bv c))
    have hc := hb c (List.mem_cons_self ..)
    have hz : bv c >>> 8 = 0#32 := by
      obtain ⟨n, rfl⟩ := Int.eq_ofNat_of_zero_le hc.1
      apply BitVec.eq_of_toNat_eq
      unfold bv
      rw [BitVec.toNat_ushiftRight, BitVec.ofInt_natCast, BitVec.toNat_ofNat, Nat.shiftRight_eq_div_pow, BitVec.toNat_ofNat]
      rw [Nat.mod_eq_of_lt (by omega)]
      omega
    have e : B (c :: l) = bitsOf 8 (bv c) ++ B l := by simp [B]
    rw [e, Rb_append, Rb_bits, hz, BitVec.xor_zero, ← h]
    show crcRow (crcByte _ _) l = _
    rw [byte_bv]
theorem all_bv (rows : List (List Int)) (hb : ∀ r ∈ rows, ∀ x ∈ r, 0 ≤ x ∧ x ≤ 255) : ∀ v : B32, crcAll (v.toNat : Int) rows = ((Rb v (B rows.flatten)).toNat : Int) := by
  induction rows with
  | nil => intro v; rfl
  | cons r rows ih =>
    intro v
    have h := ih (fun x hx => hb x (List.mem_cons_of_mem _ hx)) (Rb v (B r))
    rw [List.flatten_cons, B_append, Rb_append, ← h]
    show crcAll (crcRow _ _) rows = _
    rw [row_bv r (hb r (List.mem_cons_self ..))]
/-- The sum of bytes. -/
def S (l : List Int) : B32 := 0xFFFFFFFF#32 ^^^ Rb 0xFFFFFFFF#32 (B l)
theorem of_ev (rows : List (List Int)) (hb : ∀ r ∈ rows, ∀ x ∈ r, 0 ≤ x ∧ x ≤ 255) (h1 : rows.length ≤ 1000000) (h2 : ∀ r ∈ rows, r.length ≤ 1000000) : crc_Of.f rows = some ((S rows.flatten).toNat : Int) := by
  unfold crc_Of.f
  rw [if_pos ⟨by omega, fun r hr => by have := h2 r hr; omega⟩]
  have h := all_bv rows hb 0xFFFFFFFF#32
  have e : ((0xFFFFFFFF#32 : B32).toNat : Int) = 4294967295 := by decide
  rw [e] at h
  rw [h, bits_bv, bv_nat]
  rfl
end Go.Proofs.YtmegcockgohkhaaDoor.Pure
