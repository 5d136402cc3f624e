-- Written by myprint.py: the kit's print.py over this seat's translation, with contracts of my own.
import Derived.Test.YtmegcockgohkhaaDoorPAllx0
namespace Go.Proofs.YtmegcockgohkhaaDoor.PAll
open Go.RowKit Go.Proofs.YtmegcockgohkhaaDoorW.PrintWords Go.Proofs.YtmegcockgohkhaaDoorW.PrintLast Go.Proofs.YtmegcockgohkhaaDoorW.PrintMore
attribute [local go_sem] max2_int min2_int max_two min_two max_three min_three max_four min_four   -- for this text's walks alone
set_option linter.unusedVariables false
set_option linter.unusedSimpArgs false

/-! ### crc_Of: function 11 -/
def halfL : List Int := [0, 498536548, 997073096, 651767980, 1994146192, 1802195444, 1303535960, 1342533948, 3988292384, 4027552580, 3604390888, 3412177804, 2607071920, 2262029012, 2685067896, 3183342108]
/-- The table's cells hold what is laid. -/
def Half (w : World) : Prop := ∀ i : Nat, i < 16 → w.cell? ⟨0, i, none⟩ = some (.int .u32 (halfL.getD i 0))
def halfI (i : Int) : Int := halfL.getD i.toNat 0
def crcNib (x : Int) : Int := Go.bits .xor .u32 (x / 16) (halfI (Go.bits .and .u32 x 15))
def crcByte (x c : Int) : Int := crcNib (crcNib (Go.bits .xor .u32 x (c % 4294967296)))
def crcRow (x : Int) (l : List Int) : Int := l.foldl crcByte x
def crcAll (x : Int) (rows : List (List Int)) : Int := rows.foldl crcRow x
theorem Half.at_ {w : World} (h : Half w) (x : Int) : 0 ≤ Go.bits .and .u32 x 15 ∧ Go.bits .and .u32 x 15 < 16 ∧ w.cell? ⟨0, (Go.bits .and .u32 x 15).toNat, none⟩ = some (.int .u32 (halfI (Go.bits .and .u32 x 15))) := by
  have hb : 0 ≤ Go.bits .and .u32 x 15 ∧ Go.bits .and .u32 x 15 < 16 := by
    have e : (BitVec.ofInt 32 x &&& BitVec.ofInt 32 15).toNat ≤ 15 := by
      rw [BitVec.toNat_and]
      exact Nat.le_trans Nat.and_le_right (by decide)
    have e2 : Go.bits .and .u32 x 15 = IntKind.u32.wrap ((BitVec.ofInt 32 x &&& BitVec.ofInt 32 15).toNat : Int) := rfl
    rw [e2, IntKind.wrap_u32]
    omega
  exact ⟨hb.1, hb.2, h _ (by omega)⟩
theorem Half.keep {w w' : World} (h : Half w) (hb : Below w.heap.size w w') : Half w' := fun i hi =>
  (hb.cell (World.block_lt_of_cell? w _ (h i hi))).trans (h i hi)
def rdR (xs : List (List Int)) (i : Int) : (List Int) := xs.getD i.toNat ([] : List Int)
theorem atR {w : World} {A : Option Addr} {n : Nat} {xs : List (List Int)} (h : Kd.C (Kd.slice 5 (Kd.int .u8)) w A n xs) (i : Int) (h0 : 0 ≤ i) (h1 : i < n) : ∃ ad A0 c0, A = some ad ∧ w.cell? (ad.add i.toNat) = some (.slice A0 (rdR xs i).length c0) ∧ (rdR xs i).length ≤ c0 ∧ (Kd.int .u8).C w A0 (rdR xs i).length (rdR xs i) := by
  obtain ⟨ad, c, e, _, hK, hc0⟩ := Kd.C_get h ([] : List Int) i h0 h1
  have hc : ∀ j u, c[j]? = some u → w.cell? (ad.add (i.toNat * 1 + j)) = some u := hc0
  obtain ⟨A0, c0, rfl, l0, g0⟩ := hK
  exact ⟨ad, A0, c0, e, by have hq := hc 0 _ rfl; rwa [Nat.mul_one, Nat.add_zero] at hq, l0, g0⟩
theorem crc_wrap (n : Nat) (h : n ≤ 1099511627776) : wrap64 ((n : Int) + 1) = ((n + 1 : Nat) : Int) := by unfold wrap64; omega
theorem crcRow_snoc (x : Int) (l : List Int) (j : Nat) (h : j < l.length) : crcRow x (l.take (j + 1)) = crcByte (crcRow x (l.take j)) (rd l (j : Int)) := by
  unfold crcRow rd
  rw [List.take_add_one, List.getElem?_eq_getElem h, Int.toNat_natCast, List.getD_eq_getElem?_getD, List.getElem?_eq_getElem h, List.foldl_append]
  rfl
theorem crcAll_snoc (x : Int) (l : List (List Int)) (j : Nat) (h : j < l.length) : crcAll x (l.take (j + 1)) = crcRow (crcAll x (l.take j)) (rdR l (j : Int)) := by
  unfold crcAll rdR
  rw [List.take_add_one, List.getElem?_eq_getElem h, Int.toNat_natCast, List.getD_eq_getElem?_getD, List.getElem?_eq_getElem h, List.foldl_append]
  rfl
set_option maxRecDepth 100000 in
set_option maxHeartbeats 4000000 in
theorem crc_Of.calls_ (A0 : Option Addr) (c0 : Nat) (l0 : List (List Int)) (w : World) (hr0 : Kd.C (Kd.slice 5 (Kd.int .u8)) w A0 l0.length l0) (hc0 : l0.length ≤ c0) (hl_ : Half w) (hM : l0.length ≤ 1099511627776 ∧ ∀ r ∈ l0, r.length ≤ 1099511627776) :
    Calls Tryd.prog 11 #[.slice A0 l0.length c0] w fun e w' => e = .returned (.int .u32 (Go.bits .xor .u32 4294967295 (crcAll 4294967295 l0))) ∧ Drawn0 w w' := by
  have HR0 := Aside0.mk hr0
  have HL := Aside0.mk hl_
  have HMX := Aside0.mk hM
  clear hr0 hl_ hM
  go_enter Tryd.func11, Tryd.ntmps11
  go_wp2
  go_loopg [3, 10] l0.length (fun g v3 v10 w' => ∃ i : Nat, v10 = .int .i64 i ∧ v3 = .int .u32 (crcAll 4294967295 (l0.take i)) ∧ Aside0 (g + i = l0.length) ∧ Drawn0 w w')
  case atStart => exact ⟨0, rfl, by simp [crcAll], ⟨by omega⟩, by repeat (first | exact Drawn0.refl _ | apply Drawn0.step)⟩
  case round =>
    obtain ⟨i, rfl, rfl, HI, ⟨m1, rfl⟩⟩ := hrel
    cases gk with
    | zero =>
      have hlt : decide ((i : Int) < (l0.length : Int)) = false := decide_eq_false (by have := HI.out; omega)
      have hi : i = l0.length := by have := HI.out; omega
      subst hi
      go_wp2
      go_ret
      exact ⟨rfl, by repeat (first | exact Drawn0.refl _ | apply Drawn0.step)⟩
    | succ gko =>
      have hilt : i < l0.length := by have := HI.out; omega
      have hlt : decide ((i : Int) < (l0.length : Int)) = true := decide_eq_true (by omega)
      have p1 : (0 : Int) ≤ (i : Int) := by omega
      have q1 : (i : Int) < (l0.length : Int) := by omega
      obtain ⟨ad1, A1, c1, e1, hx1, hl1, hi1⟩ := atR HR0.out (i : Int) p1 q1
      cases e1
      rw [Int.toNat_natCast] at hx1
      have HR1 := Aside0.mk hi1
      have HC1 := Aside0.mk hl1
      have HLT := Aside0.mk hilt
      have HM1 := Aside0.mk (show (rdR l0 (i : Int)).length ≤ 1099511627776 by unfold rdR; rw [Int.toNat_natCast, List.getD_eq_getElem?_getD, List.getElem?_eq_getElem hilt, Option.getD_some]; exact HMX.out.2 _ (List.getElem_mem hilt))
      clear hi1 hl1 hilt
      replace p1 := eq_true p1
      replace q1 := eq_true q1
      go_wp2
      go_loopg [3, 16] (rdR l0 (i : Int)).length (fun g v3 v16 w' => ∃ j : Nat, v16 = .int .i64 j ∧ v3 = .int .u32 (crcRow (crcAll 4294967295 (l0.take i)) ((rdR l0 (i : Int)).take j)) ∧ Aside0 (g + j = (rdR l0 (i : Int)).length) ∧ Drawn0 w w')
      case atStart => exact ⟨0, rfl, by simp [crcRow], ⟨by omega⟩, by repeat (first | exact Drawn0.refl _ | apply Drawn0.step)⟩
      case round =>
        clear hlt
        obtain ⟨j, rfl, rfl, HJ, ⟨m2, rfl⟩⟩ := hrel
        cases gk with
        | zero =>
          have hlt2 : decide ((j : Int) < ((rdR l0 (i : Int)).length : Int)) = false := decide_eq_false (by have := HJ.out; omega)
          have hj : j = (rdR l0 (i : Int)).length := by have := HJ.out; omega
          subst hj
          go_wp2
          go_roundg gko
          case measure => omega
          case rel => exact ⟨i + 1, by rw [crc_wrap i (by have := HMX.out.1; have := HLT.out; omega)], by rw [crcAll_snoc _ _ _ HLT.out, List.take_length], ⟨by have := HI.out; omega⟩, by repeat (first | exact Drawn0.refl _ | apply Drawn0.step)⟩
        | succ gk2 =>
          have hjlt : j < (rdR l0 (i : Int)).length := by have := HJ.out; omega
          have hlt2 : decide ((j : Int) < ((rdR l0 (i : Int)).length : Int)) = true := decide_eq_true (by omega)
          have p2 : (0 : Int) ≤ (j : Int) := by omega
          have q2 : (j : Int) < ((rdR l0 (i : Int)).length : Int) := by omega
          obtain ⟨ad2, e2, hx2⟩ := Kd.at_int HR1.out (j : Int) p2 q2
          cases e2
          rw [Int.toNat_natCast] at hx2
          have hs := crcRow_snoc (crcAll 4294967295 (l0.take i)) (rdR l0 (i : Int)) j hjlt
          have HS := Aside0.mk hs
          clear hs
          generalize crcRow (crcAll 4294967295 (l0.take i)) ((rdR l0 (i : Int)).take j) = X at HS ⊢
          have HJL := Aside0.mk hjlt
          clear hjlt
          obtain ⟨pa, qa, ha⟩ := HL.out.at_ (Go.bits .xor .u32 X (rd (rdR l0 (i : Int)) (j : Int) % 4294967296))
          obtain ⟨pb, qb, hb⟩ := HL.out.at_ (crcNib (Go.bits .xor .u32 X (rd (rdR l0 (i : Int)) (j : Int) % 4294967296)))
          simp only [crcNib] at pb qb hb
          replace p2 := eq_true p2
          replace q2 := eq_true q2
          go_wp2
          go_roundg gk2
          case measure => omega
          case rel => exact ⟨j + 1, by rw [crc_wrap j (by have := HJL.out; have := HM1.out; omega)], by rw [HS.out]; rfl, ⟨by have := HJ.out; omega⟩, by repeat (first | exact Drawn0.refl _ | apply Drawn0.step)⟩
def crc_Of.f (l0 : List (List Int)) : Option Int := if l0.length ≤ 1099511627776 ∧ ∀ r ∈ l0, r.length ≤ 1099511627776 then some (Go.bits .xor .u32 4294967295 (crcAll 4294967295 l0)) else none
theorem crc_Of.calls (A0 : Option Addr) (c0 : Nat) (l0 : List (List Int)) (r : Int) (w : World) (hr0 : Kd.C (Kd.slice 5 (Kd.int .u8)) w A0 l0.length l0) (hc0 : l0.length ≤ c0) (h : crc_Of.f l0 = some r) (hl_ : Half w) :
    Calls Tryd.prog 11 #[.slice A0 l0.length c0] w fun e w' => e = .returned (.int .u32 r) ∧ Drawn0 w w' := by
  unfold crc_Of.f at h
  by_cases hM : l0.length ≤ 1099511627776 ∧ ∀ r ∈ l0, r.length ≤ 1099511627776
  · rw [if_pos hM] at h
    obtain rfl := Option.some.inj h
    exact crc_Of.calls_ A0 c0 l0 w hr0 hc0 hl_ hM
  · rw [if_neg hM] at h
    cases h

end Go.Proofs.YtmegcockgohkhaaDoor.PAll
