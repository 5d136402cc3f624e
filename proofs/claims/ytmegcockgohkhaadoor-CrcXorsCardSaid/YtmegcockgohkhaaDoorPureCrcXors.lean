/- CrcXors: the sum of three rows, xored byte by byte, is that of their sums. No condition. -/
import Derived.Test.YtmegcockgohkhaaDoorCrcXorsW
import Derived.Test.YtmegcockgohkhaaDoorCrcT
import Derived.OpenShut
set_option linter.unusedVariables false
set_option linter.unusedSimpArgs false
namespace Go.Proofs.YtmegcockgohkhaaDoor.Pure
open Go.RowKit Go.Proofs.YtmegcockgohkhaaDoor.PAll Go.Proofs.YtmegcockgohkhaaDoorW.PrintWords Go.Proofs.YtmegcockgohkhaaDoorW.PrintLast Go.Proofs.YtmegcockgohkhaaDoorW.PrintMore
theorem rd_byte (l : List Int) (hb : ∀ x ∈ l, 0 ≤ x ∧ x ≤ 255) (n q : Nat) (hq : q < n) (hn : n ≤ l.length) : ∃ x : Nat, x < 256 ∧ rd l (q : Int) = (x : Int) ∧ (l.take n).getD q 0 = (x : Int) := by
  have hlt : q < l.length := by omega
  have h := hb l[q] (List.getElem_mem hlt)
  refine ⟨l[q].toNat, by omega, ?_, ?_⟩
  · rw [rd_nat l q hlt]; omega
  · rw [List.getD_eq_getElem?_getD, List.getElem?_take, if_pos hq, List.getElem?_eq_getElem hlt, Option.getD_some]; omega
theorem xrow_getD (a b c : List Int) (n q : Nat) (hq : q < n) : (xrow a b c n).getD q 0 = xor3 (rd a (q : Int)) (rd b (q : Int)) (rd c (q : Int)) := by
  unfold xrow
  rw [List.getD_eq_getElem?_getD, List.getElem?_map, List.getElem?_range hq]
  rfl
theorem bit3 (a b c : List Int) (ha : ∀ x ∈ a, 0 ≤ x ∧ x ≤ 255) (hb : ∀ x ∈ b, 0 ≤ x ∧ x ≤ 255) (hc : ∀ x ∈ c, 0 ≤ x ∧ x ≤ 255) (n : Nat) (h0 : n ≤ a.length) (h1 : n ≤ b.length) (h2 : n ≤ c.length) (p : Nat) (hp : p < 8 * n) :
    bitAt (xrow a b c n) p = ((bitAt (a.take n) p ^^ bitAt (b.take n) p) ^^ bitAt (c.take n) p) := by
  have hq : p / 8 < n := by omega
  obtain ⟨x, hx, ex, ex2⟩ := rd_byte a ha n (p / 8) hq h0
  obtain ⟨y, hy, ey, ey2⟩ := rd_byte b hb n (p / 8) hq h1
  obtain ⟨z, hz, ez, ez2⟩ := rd_byte c hc n (p / 8) hq h2
  have hxy : x ^^^ y < 256 := Nat.xor_lt_two_pow (n := 8) hx hy
  unfold bitAt
  rw [xrow_getD a b c n _ hq, ex, ey, ez, ex2, ey2, ez2, xor3, xor8 x y hx hy, xor8 _ z hxy hz]
  have h8 : p % 8 < 32 := by omega
  rw [bv_bit _ _ h8, bv_bit _ _ h8, bv_bit _ _ h8, bv_bit _ _ h8, Nat.testBit_xor, Nat.testBit_xor]
theorem B3 (a b c : List Int) (ha : ∀ x ∈ a, 0 ≤ x ∧ x ≤ 255) (hb : ∀ x ∈ b, 0 ≤ x ∧ x ≤ 255) (hc : ∀ x ∈ c, 0 ≤ x ∧ x ≤ 255) (n : Nat) (h0 : n ≤ a.length) (h1 : n ≤ b.length) (h2 : n ≤ c.length) :
    B (xrow a b c n) = List.zipWith (· ^^ ·) (List.zipWith (· ^^ ·) (B (a.take n)) (B (b.take n))) (B (c.take n)) := by
  have hl : ∀ l : List Int, n ≤ l.length → (l.take n).length = n := fun l h => by rw [List.length_take]; omega
  rw [B_bits, B_bits, B_bits, B_bits, hl a h0, hl b h1, hl c h2, show (xrow a b c n).length = n by simp [xrow], zm, zm]
  apply List.map_congr_left
  intro p hp
  exact bit3 a b c ha hb hc n h0 h1 h2 p (List.mem_range.1 hp)
theorem S3 (a b c : List Int) (ha : ∀ x ∈ a, 0 ≤ x ∧ x ≤ 255) (hb : ∀ x ∈ b, 0 ≤ x ∧ x ≤ 255) (hc : ∀ x ∈ c, 0 ≤ x ∧ x ≤ 255) (n : Nat) (h0 : n ≤ a.length) (h1 : n ≤ b.length) (h2 : n ≤ c.length) :
    S (xrow a b c n) = (S (a.take n) ^^^ S (b.take n)) ^^^ S (c.take n) := by
  have hl : ∀ l : List Int, n ≤ l.length → (B (l.take n)).length = 8 * n := fun l h => by rw [B_length, List.length_take]; omega
  have e : Rb 0xFFFFFFFF#32 (B (xrow a b c n)) = (Rb 0xFFFFFFFF#32 (B (a.take n)) ^^^ Rb 0xFFFFFFFF#32 (B (b.take n))) ^^^ Rb 0xFFFFFFFF#32 (B (c.take n)) := by
    rw [← Rb_xor _ _ _ _ (by rw [hl a h0, hl b h1]), ← Rb_xor _ _ _ _ (by rw [List.length_zipWith, hl a h0, hl b h1, hl c h2]; omega), ← B3 a b c ha hb hc n h0 h1 h2]
    rfl
  unfold S
  rw [e]
  generalize Rb 0xFFFFFFFF#32 (B (a.take n)) = x
  generalize Rb 0xFFFFFFFF#32 (B (b.take n)) = y
  generalize Rb 0xFFFFFFFF#32 (B (c.take n)) = z
  generalize 0xFFFFFFFF#32 = f
  rw [BitVec.xor_assoc f x, xlc x f y, ← BitVec.xor_assoc f f, BitVec.xor_self, BitVec.zero_xor, xlc _ f z]
theorem xrow_range (a b c : List Int) (ha : ∀ x ∈ a, 0 ≤ x ∧ x ≤ 255) (hb : ∀ x ∈ b, 0 ≤ x ∧ x ≤ 255) (hc : ∀ x ∈ c, 0 ≤ x ∧ x ≤ 255) (n : Nat) (h0 : n ≤ a.length) (h1 : n ≤ b.length) (h2 : n ≤ c.length) : ∀ x ∈ xrow a b c n, 0 ≤ x ∧ x ≤ 255 := by
  intro v hv
  simp only [xrow, List.mem_map, List.mem_range] at hv
  obtain ⟨q, hq, rfl⟩ := hv
  obtain ⟨x, hx, ex, _⟩ := rd_byte a ha n q hq h0
  obtain ⟨y, hy, ey, _⟩ := rd_byte b hb n q hq h1
  obtain ⟨z, hz, ez, _⟩ := rd_byte c hc n q hq h2
  have hxy : x ^^^ y < 256 := Nat.xor_lt_two_pow (n := 8) hx hy
  have hxyz : (x ^^^ y) ^^^ z < 256 := Nat.xor_lt_two_pow (n := 8) hxy hz
  rw [ex, ey, ez, xor3, xor8 x y hx hy, xor8 _ z hxy hz]
  omega
theorem of_one (l : List Int) (hb : ∀ x ∈ l, 0 ≤ x ∧ x ≤ 255) (hl : l.length ≤ 1000000) : crc_Of.f [l] = some ((S l).toNat : Int) := by
  have h := of_ev [l] (by simpa using hb) (by simp) (by simpa using hl)
  simpa using h
theorem CrcXors_all (A0 A1 A2 : Option Addr) (c0 c1 c2 : Nat) (l0 l1 l2 : List Int) (w : World) (hr0 : Kd.C (Kd.int .u8) w A0 l0.length l0) (hc0 : l0.length ≤ c0) (hr1 : Kd.C (Kd.int .u8) w A1 l1.length l1) (hc1 : l1.length ≤ c1) (hr2 : Kd.C (Kd.int .u8) w A2 l2.length l2) (hc2 : l2.length ≤ c2) (hl_ : Half w) (w0 : ∀ x ∈ l0, (Lit.int .u8 x).wf = true) (w1 : ∀ x ∈ l1, (Lit.int .u8 x).wf = true) (w2 : ∀ x ∈ l2, (Lit.int .u8 x).wf = true) :
    Calls Tryd.prog 6 #[.slice A0 l0.length c0, .slice A1 l1.length c1, .slice A2 l2.length c2] w fun e w' => e = .returned (.bool true) ∧ Below w.heap.size w w' := by
  have hb0 : ∀ x ∈ l0, 0 ≤ x ∧ x ≤ 255 := fun x hx => Go.bounds_u8 (w0 x hx)
  have hb1 : ∀ x ∈ l1, 0 ≤ x ∧ x ≤ 255 := fun x hx => Go.bounds_u8 (w1 x hx)
  have hb2 : ∀ x ∈ l2, 0 ≤ x ∧ x ≤ 255 := fun x hx => Go.bounds_u8 (w2 x hx)
  clear w0 w1 w2
  obtain ⟨m, hm⟩ : ∃ m : Nat, (if (l1.length : Int) < (l0.length : Int) then (l1.length : Int) else (l0.length : Int)) = (m : Int) := ⟨if l1.length < l0.length then l1.length else l0.length, by split <;> split <;> omega⟩
  obtain ⟨n, hn⟩ : ∃ n : Nat, (if (l2.length : Int) < (m : Int) then (l2.length : Int) else (m : Int)) = (n : Int) := ⟨if l2.length < m then l2.length else m, by split <;> split <;> omega⟩
  by_cases hl : 600 < n
  · exact CrcXors_long A0 A1 A2 c0 c1 c2 l0 l1 l2 m n w hl_ hm hn hl
  have g0 : n ≤ l0.length := by split at hm <;> split at hn <;> omega
  have g1 : n ≤ l1.length := by split at hm <;> split at hn <;> omega
  have g2 : n ≤ l2.length := by split at hm <;> split at hn <;> omega
  have ht : ∀ l : List Int, (∀ x ∈ l, 0 ≤ x ∧ x ≤ 255) → ∀ x ∈ l.take n, 0 ≤ x ∧ x ≤ 255 := fun l h x hx => h x (List.mem_of_mem_take hx)
  have hlen : ∀ l : List Int, (l.take n).length ≤ 1000000 := fun l => by rw [List.length_take]; omega
  refine CrcXors_short A0 A1 A2 c0 c1 c2 l0 l1 l2 m n _ _ _ _ w hr0 hc0 hr1 hc1 hr2 hc2 hl_ hm hn (by omega) (of_one _ (xrow_range l0 l1 l2 hb0 hb1 hb2 n g0 g1 g2) (by simp [xrow]; omega)) (of_one _ (ht l0 hb0) (hlen l0)) (of_one _ (ht l1 hb1) (hlen l1)) (of_one _ (ht l2 hb2) (hlen l2)) ?_
  rw [bits_bv, bits_bv, bv_nat, bv_nat, bv_nat, bv_nat, ← S3 l0 l1 l2 hb0 hb1 hb2 n g0 g1 g2]
end Go.Proofs.YtmegcockgohkhaaDoor.Pure
