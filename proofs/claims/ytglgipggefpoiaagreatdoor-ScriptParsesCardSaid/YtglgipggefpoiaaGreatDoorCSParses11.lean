/- Texts of mine, put together (no statement stands here). -/
import Derived.Test.YtglgipggefpoiaaGreatDoorCSParses10
section
set_option linter.unusedVariables false
set_option linter.unusedSimpArgs false
namespace Go.Proofs.YtglgipggefpoiaaGreatDoor.SF
open Go.RowKit Go.Sx Go.Proofs.YtglgipggefpoiaaGreatDoor.PAll Go.Proofs.YtglgipggefpoiaaGreatDoorW.PrintWords Go.Proofs.YtglgipggefpoiaaGreatDoorW.PrintLast Go.Proofs.YtglgipggefpoiaaGreatDoorW.PrintMore
def wspl : List UInt8 → List (List UInt8)
  | [] => [[]]
  | c :: r => if c = 32 then [] :: wspl r else match wspl r with
    | [] => [[c]]
    | h :: t => (c :: h) :: t
def bl (l : List UInt8) : ByteArray := ⟨l.toArray⟩
theorem spl_ne : ∀ l, wspl l ≠ []
  | [] => by simp [wspl]
  | c :: r => by
    unfold wspl
    split
    · simp
    · split <;> simp
theorem bl_data (s : ByteArray) : bl s.data.toList = s := by unfold bl; apply ByteArray.ext; simp
theorem splitK_spl : ∀ (l : List UInt8), Lib.splitK [32] 0 (Lib.count l [32]) l = wspl l
  | [] => by
    have : Lib.count ([] : List UInt8) [32] = 0 := by rw [Lib.count_one]; rfl
    rw [this]; rfl
  | c :: r => by
    have ih := splitK_spl r
    by_cases hc : c = 32
    · subst hc
      rw [Lib.count_cons_eq, Nat.add_comm]
      have hix : Lib.index (32 :: r) [32] = 0 := by rw [Lib.index]; simp [List.isPrefixOf]
      unfold Lib.splitK
      rw [hix]
      simp only [wspl, if_true]
      rw [if_neg (by decide)]
      simp [ih]
    · rw [Lib.count_cons_ne c 32 r hc]
      have hp : ([32] : List UInt8).isPrefixOf (c :: r) = false := by simp [List.isPrefixOf, Ne.symm hc]
      have hix : Lib.index (c :: r) [32] = if Lib.index r [32] == -1 then -1 else Lib.index r [32] + 1 := by rw [Lib.index, hp]; simp
      rw [wspl, if_neg hc, ← ih]
      by_cases hm : Lib.index r [32] = -1
      · rw [Lib.count_miss hm]
        rfl
      · have hge := Lib.index_ge r [32]
        obtain ⟨j, hj⟩ : ∃ j : Nat, Lib.index r [32] = j := ⟨(Lib.index r [32]).toNat, by omega⟩
        rw [Lib.count_hit (by simp) hj, Nat.add_comm]
        unfold Lib.splitK
        have hx : Lib.index (c :: r) [32] = ((j + 1 : Nat) : Int) := by rw [hix, if_neg (by simpa using hm), hj]; omega
        rw [hx, hj, if_neg (by simp; omega), if_neg (by simp)]
        have e1 : ((j + 1 : Nat) : Int).toNat = j + 1 := by omega
        have e2 : ((j : Nat) : Int).toNat = j := by omega
        rw [e1, e2]
        simp
theorem splW_spl (s : ByteArray) : splW s = (wspl s.data.toList).map bl := by
  have h := Lib.splitB_data spB 0 (Lib.countB s spB) s
  have e : Lib.countB s spB = Lib.count s.data.toList [32] := rfl
  have e2 : spB.data.toList = [32] := rfl
  rw [e2, e, splitK_spl] at h
  rw [← h, List.map_map]
  show Lib.splitB spB 0 (Lib.countB s spB) s = _
  rw [e]
  have : (bl ∘ fun x : ByteArray => x.data.toList) = id := by funext x; exact bl_data x
  rw [this, List.map_id]
def jn : List (List UInt8) → List UInt8
  | [] => []
  | [w] => w
  | w :: v :: ws => w ++ 32 :: jn (v :: ws)
theorem spl_step (l : List UInt8) : ∀ (w : List UInt8), (match wspl l with | [] => [w] | h :: t => (w ++ h) :: t) = (match l with | [] => [w] | c :: r => if c = 32 then w :: wspl r else match wspl r with | [] => [w ++ [c]] | h :: t => (w ++ [c] ++ h) :: t) := by
  intro w
  cases l with
  | nil => simp [wspl]
  | cons c r =>
    rw [wspl]
    by_cases hc : c = 32
    · simp [hc]
    · simp only [if_neg hc]
      have := spl_ne r
      cases hs : wspl r with
      | nil => exact absurd hs this
      | cons h t => simp
theorem drop_at (s : ByteArray) (i : Nat) (h : i < s.size) : s.data.toList.drop i = UInt8.ofNat (bt s (i : Int)).toNat :: s.data.toList.drop (i + 1) := by
  have hl : i < s.data.toList.length := by simpa using h
  rw [List.drop_eq_getElem_cons hl]
  congr 1
  have e := bt_at s (i : Int) (by simpa using h)
  rw [← e]
  simp
  rfl
theorem ext_one (s : ByteArray) (i : Nat) (h : i < s.size) : s.extract i (i + 1) = bl [UInt8.ofNat (bt s (i : Int)).toNat] := by
  apply ByteArray.ext
  apply Array.ext'
  have hl : i < s.data.toList.length := by simpa using h
  have : (s.extract i (i + 1)).data.toList = (s.data.toList.drop i).take 1 := by simp [ByteArray.data_extract, List.take_drop]
  rw [this, drop_at s i h]
  simp [bl]
theorem bt_32 (s : ByteArray) (i : Int) : bt s i = 32 ↔ UInt8.ofNat (bt s i).toNat = 32 := by
  have hr := bt_range s i
  generalize bt s i = x at hr ⊢
  obtain ⟨n, rfl⟩ : ∃ n : Nat, x = n := ⟨x.toNat, by omega⟩
  have : n < 256 := by omega
  constructor
  · intro h
    have : n = 32 := by omega
    subst this; rfl
  · intro h
    have h2 := congrArg UInt8.toNat h
    simp at h2
    omega
theorem rsplit_l0 (s : ByteArray) (hs : s.size ≤ 100000) : ∀ (d i k : Nat) (acc : List ByteArray) (w : List UInt8), s.size - i = d → i ≤ s.size → acc.length + d ≤ 1000000 → w.length + d ≤ 1000000 → d + 1 ≤ k →
    paternosterref24_Split.l0 k s acc (bl w) (i : Int) = some (acc ++ (match wspl (s.data.toList.drop i) with | [] => [w] | h :: t => (w ++ h) :: t).map bl)
  | 0, i, k + 1, acc, w, hd, hi, ha, hw, hk => by
    rw [paternosterref24_Split.l0, if_neg (by omega), if_pos (by omega)]
    have : s.data.toList.drop i = [] := List.drop_of_length_le (by simp; show s.size ≤ i; omega)
    rw [this]
    simp [wspl]
  | d + 1, i, k + 1, acc, w, hd, hi, ha, hw, hk => by
    have hil : i < s.size := by omega
    have hw1 : wrap64 ((i : Int) + 1) = ((i + 1 : Nat) : Int) := by unfold wrap64; omega
    rw [paternosterref24_Split.l0, if_pos (by omega), if_pos (by omega), hw1, spl_step, drop_at s i hil]
    simp only
    by_cases hb : bt s (i : Int) = 32
    · have hb2 := (bt_32 s i).1 hb
      rw [if_pos hb, if_pos (by omega), if_pos hb2]
      have := rsplit_l0 s hs d (i + 1) k (acc ++ [bl w]) [] (by omega) (by omega) (by simp; omega) (by simp; omega) (by omega)
      rw [show (⟨#[]⟩ : ByteArray) = bl [] from rfl, this]
      have hne := spl_ne (s.data.toList.drop (i + 1))
      cases hsp : wspl (s.data.toList.drop (i + 1)) with
      | nil => exact absurd hsp hne
      | cons h t => simp
    · have hb2 : ¬ UInt8.ofNat (bt s (i : Int)).toNat = 32 := fun e => hb ((bt_32 s i).2 e)
      have e1 : ((i : Nat) : Int).toNat = i := by omega
      have e2 : ((i + 1 : Nat) : Int).toNat = i + 1 := by omega
      rw [if_neg hb, if_pos (by omega), if_pos (by omega), e1, e2, ext_one s i hil, if_neg hb2]
      have hsz : (bl w).size + (bl [UInt8.ofNat (bt s (i : Int)).toNat]).size ≤ 9223372036854775807 := by
        show (w.toArray).size + _ ≤ _
        simp [bl, ByteArray.size]
        omega
      rw [if_pos hsz]
      have e3 : bl w ++ bl [UInt8.ofNat (bt s (i : Int)).toNat] = bl (w ++ [UInt8.ofNat (bt s (i : Int)).toNat]) := by
        apply ByteArray.ext; simp [bl]
      rw [e3, rsplit_l0 s hs d (i + 1) k acc (w ++ [UInt8.ofNat (bt s (i : Int)).toNat]) (by omega) (by omega) (by omega) (by simp; omega) (by omega)]
theorem rsplit_ev (s : ByteArray) (hs : s.size ≤ 100000) {k : Nat} (hk : s.size + 1 ≤ k) : paternosterref24_Split.f k s = some (splW s) := by
  have := rsplit_l0 s hs s.size 0 k [] [] (by omega) (by omega) (by simp; omega) (by simp; omega) hk
  unfold paternosterref24_Split.f
  rw [show (⟨#[]⟩ : ByteArray) = bl [] from rfl, show (0 : Int) = ((0 : Nat) : Int) from rfl, this, splW_spl, List.drop_zero]
  have hne := spl_ne s.data.toList
  cases hsp : wspl s.data.toList with
  | nil => exact absurd hsp hne
  | cons h t => simp
end Go.Proofs.YtglgipggefpoiaaGreatDoor.SF
end
section
namespace Go.Proofs.YtglgipggefpoiaaGreatDoor.PAll
open Go.RowKit Go.Proofs.YtglgipggefpoiaaGreatDoorW.PrintWords Go.Proofs.YtglgipggefpoiaaGreatDoorW.PrintLast Go.Proofs.YtglgipggefpoiaaGreatDoorW.PrintMore
attribute [local go_sem] max2_int min2_int max_two min_two max_three min_three max_four min_four
set_option linter.unusedVariables false
set_option linter.unusedSimpArgs false
mutual
def paternosterref24_digits.j0 : Nat → ByteArray → Int → Bool → Option (Int × Bool)
  | 0, _, _, _ => none
  | k + 1, x0, x1, x25 => if x25 = true then (some (0, false)) else (paternosterref24_digits.l0 k x0 x1 0 0)
def paternosterref24_digits.l0 : Nat → ByteArray → Int → Int → Int → Option (Int × Bool)
  | 0, _, _, _, _ => none
  | k + 1, x0, x1, x6, x7 => if x7 < (x0.size : Int) then (if 0 ≤ x7 then (if (bt x0 x7) < 48 then (paternosterref24_digits.j2 k x0 x1 x6 x7 true) else (paternosterref24_digits.j2 k x0 x1 x6 x7 (decide ((bt x0 x7) > 57)))) else (none)) else (some (x6, true))
def paternosterref24_digits.j2 : Nat → ByteArray → Int → Int → Int → Bool → Option (Int × Bool)
  | 0, _, _, _, _, _ => none
  | k + 1, x0, x1, x6, x7, x41 => if x41 = true then (some (0, false)) else (if 0 ≤ x7 then (if x7 < (x0.size : Int) then (if x6 > (IntKind.u64.wrap (Int.tdiv (IntKind.u64.wrap (x1 - (((bt x0 x7) - 48) % 256))) 10)) then (some (0, false)) else (paternosterref24_digits.l0 k x0 x1 (IntKind.u64.wrap ((IntKind.u64.wrap (10 * x6)) + (((bt x0 x7) - 48) % 256))) (wrap64 (x7 + 1)))) else (none)) else (none))
end
def paternosterref24_digits.f (k : Nat) (a0 : ByteArray) (a1 : Int) : Option (Int × Bool) := if a0.toList = ([] : List UInt8) then (paternosterref24_digits.j0 k a0 a1 true) else (if (a0.size : Int) > 20 then (paternosterref24_digits.j0 k a0 a1 true) else (if 0 < (a0.size : Int) then (if (bt a0 0) = 48 then (paternosterref24_digits.j0 k a0 a1 (decide ((a0.size : Int) > 1))) else (paternosterref24_digits.j0 k a0 a1 false)) else (none)))
set_option maxHeartbeats 8000000 in
set_option maxRecDepth 100000 in
theorem paternosterref24_digits.calls (k : Nat) (a0 : ByteArray) (a1 : Int) (r1 : Int) (r2 : Bool) (w : World) (h : paternosterref24_digits.f k a0 a1 = some (r1, r2)) :
    Calls Tryz.prog 31 #[.string a0, .int .u64 a1] w fun e w' => e = .returned (.tuple #[.int .u64 r1, .bool r2]) ∧ Drawn0 w w' := by
  have H : (if a0.toList = ([] : List UInt8) then (paternosterref24_digits.j0 k a0 a1 true) else (if (a0.size : Int) > 20 then (paternosterref24_digits.j0 k a0 a1 true) else (if 0 < (a0.size : Int) then (if (bt a0 0) = 48 then (paternosterref24_digits.j0 k a0 a1 (decide ((a0.size : Int) > 1))) else (paternosterref24_digits.j0 k a0 a1 false)) else (none)))) = some (r1, r2) := h
  clear h
  have HC3 := Aside0.mk H
  clear H
  go_enter Tryz.func31, Tryz.ntmps31
  go_upto_region 1 with (fail)
  go_cut [25] (fun v25 wc => ∃ (kq : Nat) (x25_2 : Bool), v25 = .bool x25_2 ∧ Aside0 (paternosterref24_digits.j0 kq a0 a1 x25_2 = some (r1, r2)) ∧ Aside0 (kq ≤ k) ∧ Drawn0 w wc)
  case first =>
    have H := HC3.out
    clear HC3
    by_cases c4 : a0.toList = ([] : List UInt8)
    · rw [if_pos c4] at H
      have c4b0 : (a0.toList == ([] : List UInt8)) = true := beq_iff_eq.mpr c4
      have c4b1 : (a0.toList != ([] : List UInt8)) = false := bne_eq_false_iff_eq.mpr c4
      clear c4
      (first | rw [c4b0] | (simp only [i64_w, i32_w]; rw [c4b0]) | skip)
      have H' := Aside0.mk H
      clear H
      go_wp2
      go_meet
      case rel => exact ⟨_, (true), (by first | rfl | (simp; done) | (simp [*]; done)), H', ⟨by first | omega | exact Nat.le_refl _⟩, by repeat (first | exact Drawn0.refl _ | apply Drawn0.step)⟩
    · rw [if_neg c4] at H
      have c4b0 : (a0.toList == ([] : List UInt8)) = false := beq_eq_false_iff_ne.mpr c4
      have c4b1 : (a0.toList != ([] : List UInt8)) = true := bne_iff_ne.mpr c4
      (first | rw [c4b0] | (simp only [i64_w, i32_w]; rw [c4b0]) | skip)
      by_cases c5 : (a0.size : Int) > 20
      · rw [if_pos c5] at H
        have c5b0 : decide (20 < (a0.size : Int)) = true := decide_eq_true c5
        have c5b1 : decide (20 < a0.size) = true := decide_eq_true (by omega)
        clear c5
        have H' := Aside0.mk H
        clear H
        go_wp2
        go_meet
        case rel => exact ⟨_, (true), (by first | rfl | (simp; done) | (simp [*]; done)), H', ⟨by first | omega | exact Nat.le_refl _⟩, by repeat (first | exact Drawn0.refl _ | apply Drawn0.step)⟩
      · rw [if_neg c5] at H
        have c5b0 : decide (20 < (a0.size : Int)) = false := decide_eq_false c5
        have c5b1 : decide (20 < a0.size) = false := decide_eq_false (by omega)
        clear c5
        by_cases c6 : 0 < (a0.size : Int)
        · rw [if_pos c6] at H
          have c6b0 : decide (0 < (a0.size : Int)) = true := decide_eq_true c6
          have c6b1 : decide (0 < a0.size) = true := decide_eq_true (by omega)
          clear c6
          by_cases c8 : (bt a0 0) = 48
          · rw [if_pos c8] at H
            have c8b0 : ((bt a0 0) == 48) = true := beq_iff_eq.mpr c8
            have c8b1 : ((bt a0 0) != 48) = false := bne_eq_false_iff_eq.mpr c8
            clear c8
            have H' := Aside0.mk H
            clear H
            have p7 : 0 ≤ (0 : Int) := (by omega)
            have q7 : 0 < a0.size := (by have : (0 : Int) < (a0.size : Int) := of_decide_eq_true (by first | (with_reducible assumption) | assumption); omega)
            have hx7 : ∀ h : 0 < a0.size, ((a0[0]'h).toNat : Int) = bt a0 0 := bt_at a0 0
            clear p7
            have qi7 : (0 < (a0.size : Int)) = True := eq_true (of_decide_eq_true (by first | (with_reducible assumption) | assumption))
            replace q7 := eq_true q7
            go_wp2
            go_meet
            case rel => exact ⟨_, (decide ((a0.size : Int) > 1)), (by first | rfl | (simp; done) | (simp [*]; done)), H', ⟨by first | omega | exact Nat.le_refl _⟩, by repeat (first | exact Drawn0.refl _ | apply Drawn0.step)⟩
          · rw [if_neg c8] at H
            have c8b0 : ((bt a0 0) == 48) = false := beq_eq_false_iff_ne.mpr c8
            have c8b1 : ((bt a0 0) != 48) = true := bne_iff_ne.mpr c8
            have H' := Aside0.mk H
            clear H
            have p7 : 0 ≤ (0 : Int) := (by omega)
            have q7 : 0 < a0.size := (by have : (0 : Int) < (a0.size : Int) := of_decide_eq_true (by first | (with_reducible assumption) | assumption); omega)
            have hx7 : ∀ h : 0 < a0.size, ((a0[0]'h).toNat : Int) = bt a0 0 := bt_at a0 0
            clear p7
            have qi7 : (0 < (a0.size : Int)) = True := eq_true (of_decide_eq_true (by first | (with_reducible assumption) | assumption))
            replace q7 := eq_true q7
            go_wp2
            go_meet
            case rel => exact ⟨_, (false), (by first | rfl | (simp; done) | (simp [*]; done)), H', ⟨by first | omega | exact Nat.le_refl _⟩, by repeat (first | exact Drawn0.refl _ | apply Drawn0.step)⟩
        · rw [if_neg c6] at H
          exact absurd H (by simp)
  case rest =>
    clear HC3
    try clear p2
    try clear c3
    try clear c4
    try clear c4b0
    try clear c4b1
    try clear c5
    try clear c5b0
    try clear c5b1
    try clear c6
    try clear c6b0
    try clear c6b1
    try clear p7
    try clear q7
    try clear hx7
    try clear qi7
    try clear c8
    try clear c8b0
    try clear c8b1
    try clear p7
    try clear q7
    obtain ⟨kq, x25_2, rfl, HA, HJ2, ⟨mc2, rfl⟩⟩ := hcut
    cases kq with
    | zero => exact absurd HA.out (by simp [paternosterref24_digits.j0])
    | succ kj2 =>
      have H := HA.out
      clear HA
      simp only [paternosterref24_digits.j0] at H
      by_cases c9 : x25_2 = true
      · subst c9
        have H1 : (some (0, false)) = some (r1, r2) := by rw [if_pos rfl] at H; exact H
        clear H
        have H := H1
        clear H1
        simp only [Option.some.injEq, Prod.mk.injEq] at H
        obtain ⟨rfl, rfl⟩ := H
        go_wp2
        go_ret2
        exact ⟨by first | rfl | (simp; done) | (simp [*]; done), by repeat (first | exact Drawn0.refl _ | apply Drawn0.step)⟩
      · replace c9 := Bool.eq_false_iff.mpr c9
        subst c9
        have H1 : (paternosterref24_digits.l0 kj2 a0 a1 0 0) = some (r1, r2) := by rw [if_neg (show ¬ (false = true) by decide)] at H; exact H
        clear H
        have H := H1
        clear H1
        have H' := Aside0.mk H
        clear H
        go_wp2
        go_loopg [6, 7] kj2 (fun kq v6 v7 w' => ∃ (x6_2 : Int) (x7_2 : Int), v6 = .int .u64 x6_2 ∧ v7 = .int .i64 x7_2 ∧ Aside0 (paternosterref24_digits.l0 kq a0 a1 x6_2 x7_2 = some (r1, r2)) ∧ Aside0 (kq ≤ kj2) ∧ Drawn0 w w')
        case atStart => exact ⟨(0), (0), (by first | rfl | (simp; done) | (simp [*]; done)), (by first | rfl | (simp; done) | (simp [*]; done)), H', ⟨Nat.le_refl _⟩, by repeat (first | exact Drawn0.refl _ | apply Drawn0.step)⟩
        case round =>
          clear H'
          try clear c2
          try clear p2
          try clear c3
          try clear c4
          try clear c4b0
          try clear c4b1
          try clear c5
          try clear c5b0
          try clear c5b1
          try clear c6
          try clear c6b0
          try clear c6b1
          try clear p7
          try clear q7
          try clear hx7
          try clear qi7
          try clear c8
          try clear c8b0
          try clear c8b1
          try clear c9
          try clear p2
          try clear p7
          try clear q7
          obtain ⟨x6_2, x7_2, rfl, rfl, HA, HK2, ⟨m2, rfl⟩⟩ := hrel
          cases gk with
          | zero => exact absurd HA.out (by simp [paternosterref24_digits.l0])
          | succ k2 =>
            have H := HA.out
            clear HA
            simp only [paternosterref24_digits.l0] at H
            by_cases c10 : x7_2 < (a0.size : Int)
            · rw [if_pos c10] at H
              have c10b0 : decide (x7_2 < (a0.size : Int)) = true := decide_eq_true c10
              clear c10
              have HC11 := Aside0.mk H
              clear H
              go_upto_region 7 with (fail)
              go_cut [41] (fun v41 wc => ∃ (kq : Nat) (x41_10 : Bool), v41 = .bool x41_10 ∧ Aside0 (paternosterref24_digits.j2 kq a0 a1 x6_2 x7_2 x41_10 = some (r1, r2)) ∧ Aside0 (kq ≤ k2) ∧ Drawn0 w wc)
              case first =>
                have H := HC11.out
                clear HC11
                by_cases c12 : 0 ≤ x7_2
                · rw [if_pos c12] at H
                  have c12b0 : decide (0 ≤ x7_2) = true := decide_eq_true c12
                  clear c12
                  (first | rw [c12b0] | (simp only [i64_w, i32_w]; rw [c12b0]) | skip)
                  by_cases c14 : (bt a0 x7_2) < 48
                  · rw [if_pos c14] at H
                    have c14b0 : decide ((bt a0 x7_2) < 48) = true := decide_eq_true c14
                    clear c14
                    have H' := Aside0.mk H
                    clear H
                    have p13 : 0 ≤ (x7_2 : Int) := of_decide_eq_true (by first | (with_reducible assumption) | assumption)
                    have q13 : x7_2 < (a0.size : Int) := of_decide_eq_true (by first | (with_reducible assumption) | assumption)
                    have hx13 := bt_at a0 x7_2
                    replace p13 := eq_true p13
                    replace q13 := eq_true q13
                    go_wp2
                    go_meet
                    case rel => exact ⟨_, (true), (by first | rfl | (simp; done) | (simp [*]; done)), H', ⟨by have := HJ2.out; have := HK2.out; first | omega | exact Nat.le_refl _⟩, by repeat (first | exact Drawn0.refl _ | apply Drawn0.step)⟩
                  · rw [if_neg c14] at H
                    have c14b0 : decide ((bt a0 x7_2) < 48) = false := decide_eq_false c14
                    clear c14
                    have H' := Aside0.mk H
                    clear H
                    have p13 : 0 ≤ (x7_2 : Int) := of_decide_eq_true (by first | (with_reducible assumption) | assumption)
                    have q13 : x7_2 < (a0.size : Int) := of_decide_eq_true (by first | (with_reducible assumption) | assumption)
                    have hx13 := bt_at a0 x7_2
                    replace p13 := eq_true p13
                    replace q13 := eq_true q13
                    have p15 : 0 ≤ (x7_2 : Int) := of_decide_eq_true (by first | (with_reducible assumption) | assumption)
                    have q15 : x7_2 < (a0.size : Int) := of_decide_eq_true (by first | (with_reducible assumption) | assumption)
                    have hx15 := bt_at a0 x7_2
                    replace p15 := eq_true p15
                    replace q15 := eq_true q15
                    go_wp2
                    go_meet
                    case rel => exact ⟨_, (decide ((bt a0 x7_2) > 57)), (by first | rfl | (simp; done) | (simp [*]; done)), H', ⟨by have := HJ2.out; have := HK2.out; first | omega | exact Nat.le_refl _⟩, by repeat (first | exact Drawn0.refl _ | apply Drawn0.step)⟩
                · rw [if_neg c12] at H
                  exact absurd H (by simp)
              case rest =>
                clear HC11
                try clear c1
                try clear p1
                try clear q1
                try clear hx1
                try clear c2
                try clear p2
                try clear c3
                try clear c4
                try clear c4b0
                try clear c4b1
                try clear c5
                try clear c5b0
                try clear c5b1
                try clear c6
                try clear c6b0
                try clear c6b1
                try clear p7
                try clear q7
                try clear hx7
                try clear qi7
                try clear c8
                try clear c8b0
                try clear c8b1
                try clear c9
                try clear c10
                try clear c10b0
                try clear c12
                try clear c12b0
                try clear p13
                try clear q13
                try clear hx13
                try clear c14
                try clear c14b0
                try clear p15
                try clear q15
                try clear hx15
                try clear p13
                try clear p15
                try clear p2
                try clear p7
                try clear q13
                try clear q15
                try clear q7
                obtain ⟨kq, x41_10, rfl, HA, HJ10, ⟨mc10, rfl⟩⟩ := hcut
                cases kq with
                | zero => exact absurd HA.out (by simp [paternosterref24_digits.j2])
                | succ kj10 =>
                  have H := HA.out
                  clear HA
                  simp only [paternosterref24_digits.j2] at H
                  by_cases c16 : x41_10 = true
                  · subst c16
                    have H1 : (some (0, false)) = some (r1, r2) := by rw [if_pos rfl] at H; exact H
                    clear H
                    have H := H1
                    clear H1
                    simp only [Option.some.injEq, Prod.mk.injEq] at H
                    obtain ⟨rfl, rfl⟩ := H
                    go_wp2
                    go_ret2
                    exact ⟨by first | rfl | (simp; done) | (simp [*]; done), by repeat (first | exact Drawn0.refl _ | apply Drawn0.step)⟩
                  · replace c16 := Bool.eq_false_iff.mpr c16
                    subst c16
                    have H1 : (if 0 ≤ x7_2 then (if x7_2 < (a0.size : Int) then (if x6_2 > (IntKind.u64.wrap (Int.tdiv (IntKind.u64.wrap (a1 - (((bt a0 x7_2) - 48) % 256))) 10)) then (some (0, false)) else (paternosterref24_digits.l0 kj10 a0 a1 (IntKind.u64.wrap ((IntKind.u64.wrap (10 * x6_2)) + (((bt a0 x7_2) - 48) % 256))) (wrap64 (x7_2 + 1)))) else (none)) else (none)) = some (r1, r2) := by rw [if_neg (show ¬ (false = true) by decide)] at H; exact H
                    clear H
                    have H := H1
                    clear H1
                    by_cases c17 : 0 ≤ x7_2
                    · rw [if_pos c17] at H
                      have c17b0 : decide (0 ≤ x7_2) = true := decide_eq_true c17
                      clear c17
                      by_cases c18 : x7_2 < (a0.size : Int)
                      · rw [if_pos c18] at H
                        have c18b0 : decide (x7_2 < (a0.size : Int)) = true := decide_eq_true c18
                        clear c18
                        by_cases c20 : x6_2 > (IntKind.u64.wrap (Int.tdiv (IntKind.u64.wrap (a1 - (((bt a0 x7_2) - 48) % 256))) 10))
                        · rw [if_pos c20] at H
                          have c20b0 : decide ((IntKind.u64.wrap (Int.tdiv (IntKind.u64.wrap (a1 - (((bt a0 x7_2) - 48) % 256))) 10)) < x6_2) = true := decide_eq_true c20
                          clear c20
                          simp only [Option.some.injEq, Prod.mk.injEq] at H
                          obtain ⟨rfl, rfl⟩ := H
                          have p19 : 0 ≤ (x7_2 : Int) := of_decide_eq_true (by first | (with_reducible assumption) | assumption)
                          have q19 : x7_2 < (a0.size : Int) := of_decide_eq_true (by first | (with_reducible assumption) | assumption)
                          have hx19 := bt_at a0 x7_2
                          replace p19 := eq_true p19
                          replace q19 := eq_true q19
                          go_wp2
                          go_ret2
                          exact ⟨by first | rfl | (simp; done) | (simp [*]; done), by repeat (first | exact Drawn0.refl _ | apply Drawn0.step)⟩
                        · rw [if_neg c20] at H
                          have c20b0 : decide ((IntKind.u64.wrap (Int.tdiv (IntKind.u64.wrap (a1 - (((bt a0 x7_2) - 48) % 256))) 10)) < x6_2) = false := decide_eq_false c20
                          clear c20
                          have H' := Aside0.mk H
                          clear H
                          have p19 : 0 ≤ (x7_2 : Int) := of_decide_eq_true (by first | (with_reducible assumption) | assumption)
                          have q19 : x7_2 < (a0.size : Int) := of_decide_eq_true (by first | (with_reducible assumption) | assumption)
                          have hx19 := bt_at a0 x7_2
                          replace p19 := eq_true p19
                          replace q19 := eq_true q19
                          go_wp2
                          go_roundg kj10
                          case measure => have := HJ2.out; have := HK2.out; have := HJ10.out; omega
                          case rel => exact ⟨(IntKind.u64.wrap ((IntKind.u64.wrap (10 * x6_2)) + (((bt a0 x7_2) - 48) % 256))), (wrap64 (x7_2 + 1)), (by first | rfl | (simp; done) | (simp [*]; done)), (by first | rfl | (simp; done) | (simp [*]; done)), H', ⟨by have := HJ2.out; have := HK2.out; have := HJ10.out; omega⟩, by repeat (first | exact Drawn0.refl _ | apply Drawn0.step)⟩
                      · rw [if_neg c18] at H
                        exact absurd H (by simp)
                    · rw [if_neg c17] at H
                      exact absurd H (by simp)
            · rw [if_neg c10] at H
              have c10b0 : decide (x7_2 < (a0.size : Int)) = false := decide_eq_false c10
              clear c10
              simp only [Option.some.injEq, Prod.mk.injEq] at H
              obtain ⟨rfl, rfl⟩ := H
              go_wp2
              go_ret2
              exact ⟨by first | rfl | (simp; done) | (simp [*]; done), by repeat (first | exact Drawn0.refl _ | apply Drawn0.step)⟩
end Go.Proofs.YtglgipggefpoiaaGreatDoor.PAll
end
section
namespace Go.Proofs.YtglgipggefpoiaaGreatDoor.PAll
open Go.RowKit Go.Proofs.YtglgipggefpoiaaGreatDoorW.PrintWords Go.Proofs.YtglgipggefpoiaaGreatDoorW.PrintLast Go.Proofs.YtglgipggefpoiaaGreatDoorW.PrintMore
attribute [local go_sem] max2_int min2_int max_two min_two max_three min_three max_four min_four
set_option linter.unusedVariables false
set_option linter.unusedSimpArgs false
def paternosterref24_number.j0 : Nat → ByteArray → Bool → Option (Int × Bool)
  | 0, _, _ => none
  | k + 1, x0, x14 => if x14 = true then (if 1 ≤ (x0.size : Int) then ((paternosterref24_digits.f k (x0.extract 1 x0.size) 9223372036854775808).bind fun bt181 => (if bt181.1 = 0 then (some (0, false)) else (some (wrap64 ((wrap64 (-(wrap64 (IntKind.u64.wrap (bt181.1 - 1))))) - 1), bt181.2)))) else (none)) else ((paternosterref24_digits.f k x0 9223372036854775807).bind fun bt183 => (some (wrap64 (bt183.1), bt183.2)))
def paternosterref24_number.f (k : Nat) (a0 : ByteArray) : Option (Int × Bool) := if a0.toList = ([] : List UInt8) then (paternosterref24_number.j0 k a0 false) else (if 0 < (a0.size : Int) then (paternosterref24_number.j0 k a0 ((bt a0 0) == 45)) else (none))
set_option maxHeartbeats 8000000 in
set_option maxRecDepth 100000 in
theorem paternosterref24_number.calls (k : Nat) (a0 : ByteArray) (r1 : Int) (r2 : Bool) (w : World) (h : paternosterref24_number.f k a0 = some (r1, r2)) :
    Calls Tryz.prog 30 #[.string a0] w fun e w' => e = .returned (.tuple #[.int .i64 r1, .bool r2]) ∧ Drawn0 w w' := by
  have H : (if a0.toList = ([] : List UInt8) then (paternosterref24_number.j0 k a0 false) else (if 0 < (a0.size : Int) then (paternosterref24_number.j0 k a0 ((bt a0 0) == 45)) else (none))) = some (r1, r2) := h
  clear h
  have HC2 := Aside0.mk H
  clear H
  go_enter Tryz.func30, Tryz.ntmps30
  go_upto_region 1 with (fail)
  go_cut [14] (fun v14 wc => ∃ (kq : Nat) (x14_1 : Bool), v14 = .bool x14_1 ∧ Aside0 (paternosterref24_number.j0 kq a0 x14_1 = some (r1, r2)) ∧ Aside0 (kq ≤ k) ∧ Drawn0 w wc)
  case first =>
    have H := HC2.out
    clear HC2
    by_cases c3 : a0.toList = ([] : List UInt8)
    · rw [if_pos c3] at H
      have c3b0 : (a0.toList == ([] : List UInt8)) = true := beq_iff_eq.mpr c3
      have c3b1 : (a0.toList != ([] : List UInt8)) = false := bne_eq_false_iff_eq.mpr c3
      clear c3
      (first | rw [c3b0] | (simp only [i64_w, i32_w]; rw [c3b0]) | skip)
      have H' := Aside0.mk H
      clear H
      go_wp2
      go_meet
      case rel => exact ⟨_, (false), (by first | rfl | (simp; done) | (simp [*]; done)), H', ⟨by first | omega | exact Nat.le_refl _⟩, by repeat (first | exact Drawn0.refl _ | apply Drawn0.step)⟩
    · rw [if_neg c3] at H
      have c3b0 : (a0.toList == ([] : List UInt8)) = false := beq_eq_false_iff_ne.mpr c3
      have c3b1 : (a0.toList != ([] : List UInt8)) = true := bne_iff_ne.mpr c3
      (first | rw [c3b0] | (simp only [i64_w, i32_w]; rw [c3b0]) | skip)
      by_cases c4 : 0 < (a0.size : Int)
      · rw [if_pos c4] at H
        have c4b0 : decide (0 < (a0.size : Int)) = true := decide_eq_true c4
        have c4b1 : decide (0 < a0.size) = true := decide_eq_true (by omega)
        clear c4
        have H' := Aside0.mk H
        clear H
        have p5 : 0 ≤ (0 : Int) := (by omega)
        have q5 : 0 < a0.size := (by have : (0 : Int) < (a0.size : Int) := of_decide_eq_true (by first | (with_reducible assumption) | assumption); omega)
        have hx5 : ∀ h : 0 < a0.size, ((a0[0]'h).toNat : Int) = bt a0 0 := bt_at a0 0
        clear p5
        have qi5 : (0 < (a0.size : Int)) = True := eq_true (of_decide_eq_true (by first | (with_reducible assumption) | assumption))
        replace q5 := eq_true q5
        go_wp2
        go_meet
        case rel => exact ⟨_, (((bt a0 0) == 45)), (by first | rfl | (simp; done) | (simp [*]; done)), H', ⟨by first | omega | exact Nat.le_refl _⟩, by repeat (first | exact Drawn0.refl _ | apply Drawn0.step)⟩
      · rw [if_neg c4] at H
        exact absurd H (by simp)
  case rest =>
    clear HC2
    try clear p2
    try clear c3
    try clear c3b0
    try clear c3b1
    try clear c4
    try clear c4b0
    try clear c4b1
    try clear p5
    try clear q5
    try clear hx5
    try clear qi5
    try clear p5
    try clear q5
    obtain ⟨kq, x14_1, rfl, HA, HJ1, ⟨mc1, rfl⟩⟩ := hcut
    cases kq with
    | zero => exact absurd HA.out (by simp [paternosterref24_number.j0])
    | succ kj1 =>
      have H := HA.out
      clear HA
      simp only [paternosterref24_number.j0] at H
      by_cases c6 : x14_1 = true
      · subst c6
        have H1 : (if 1 ≤ (a0.size : Int) then ((paternosterref24_digits.f kj1 (a0.extract 1 a0.size) 9223372036854775808).bind fun bt181 => (if bt181.1 = 0 then (some (0, false)) else (some (wrap64 ((wrap64 (-(wrap64 (IntKind.u64.wrap (bt181.1 - 1))))) - 1), bt181.2)))) else (none)) = some (r1, r2) := by rw [if_pos rfl] at H; exact H
        clear H
        have H := H1
        clear H1
        by_cases c7 : 1 ≤ (a0.size : Int)
        · rw [if_pos c7] at H
          have c7b0 := eq_true c7
          have c7b1 : decide (1 ≤ (a0.size : Int)) = true := decide_eq_true c7
          clear c7
          replace H := Option.bind_eq_some_iff.mp H
          obtain ⟨⟨t181, t182⟩, A80, H⟩ := H
          replace H : (if t181 = 0 then (some (0, false)) else (some (wrap64 ((wrap64 (-(wrap64 (IntKind.u64.wrap (t181 - 1))))) - 1), t182))) = some (r1, r2) := H
          have A8 := Aside0.mk A80
          clear A80
          by_cases c9 : t181 = 0
          · rw [if_pos c9] at H
            have c9b0 : (t181 == 0) = true := beq_iff_eq.mpr c9
            have c9b1 : (t181 != 0) = false := bne_eq_false_iff_eq.mpr c9
            clear c9
            simp only [Option.some.injEq, Prod.mk.injEq] at H
            obtain ⟨rfl, rfl⟩ := H
            go_wp2_with (first | ((with_reducible refine gate_callee (f := 31) rfl ?_); refine goesL_ (some 18) rfl rfl Tryz.func31 (by kernel_rfl) rfl #[.string (a0.extract 1 a0.size), .int .u64 9223372036854775808] rfl (by (try simp only [List.map_toArray, List.map_cons, List.map_nil]); first | done | rfl | (simp only [List.length_drop, List.length_take]; rfl)) ?_; (with_reducible refine (paternosterref24_digits.calls kj1 (a0.extract 1 a0.size) 9223372036854775808 t181 t182 _ A8.out).mono ?_); rintro e w' ⟨rfl, ⟨nd, rfl⟩⟩; refine ⟨_, rfl, ?_⟩))
            go_ret2
            exact ⟨by first | rfl | (simp; done) | (simp [*]; done), by repeat (first | exact Drawn0.refl _ | apply Drawn0.step)⟩
          · rw [if_neg c9] at H
            have c9b0 : (t181 == 0) = false := beq_eq_false_iff_ne.mpr c9
            have c9b1 : (t181 != 0) = true := bne_iff_ne.mpr c9
            simp only [Option.some.injEq, Prod.mk.injEq] at H
            obtain ⟨rfl, rfl⟩ := H
            go_wp2_with (first | ((with_reducible refine gate_callee (f := 31) rfl ?_); refine goesL_ (some 18) rfl rfl Tryz.func31 (by kernel_rfl) rfl #[.string (a0.extract 1 a0.size), .int .u64 9223372036854775808] rfl (by (try simp only [List.map_toArray, List.map_cons, List.map_nil]); first | done | rfl | (simp only [List.length_drop, List.length_take]; rfl)) ?_; (with_reducible refine (paternosterref24_digits.calls kj1 (a0.extract 1 a0.size) 9223372036854775808 t181 t182 _ A8.out).mono ?_); rintro e w' ⟨rfl, ⟨nd, rfl⟩⟩; refine ⟨_, rfl, ?_⟩))
            go_ret2
            exact ⟨by first | rfl | (simp; done) | (simp [*]; done), by repeat (first | exact Drawn0.refl _ | apply Drawn0.step)⟩
        · rw [if_neg c7] at H
          exact absurd H (by simp)
      · replace c6 := Bool.eq_false_iff.mpr c6
        subst c6
        have H1 : ((paternosterref24_digits.f kj1 a0 9223372036854775807).bind fun bt183 => (some (wrap64 (bt183.1), bt183.2))) = some (r1, r2) := by rw [if_neg (show ¬ (false = true) by decide)] at H; exact H
        clear H
        have H := H1
        clear H1
        replace H := Option.bind_eq_some_iff.mp H
        obtain ⟨⟨t183, t184⟩, A100, H⟩ := H
        replace H : (some (wrap64 (t183), t184)) = some (r1, r2) := H
        have A10 := Aside0.mk A100
        clear A100
        simp only [Option.some.injEq, Prod.mk.injEq] at H
        obtain ⟨rfl, rfl⟩ := H
        go_wp2_with (first | ((with_reducible refine gate_callee (f := 31) rfl ?_); refine goesL_ (some 31) rfl rfl Tryz.func31 (by kernel_rfl) rfl #[.string a0, .int .u64 9223372036854775807] rfl (by (try simp only [List.map_toArray, List.map_cons, List.map_nil]); first | done | rfl | (simp only [List.length_drop, List.length_take]; rfl)) ?_; (with_reducible refine (paternosterref24_digits.calls kj1 a0 9223372036854775807 t183 t184 _ A10.out).mono ?_); rintro e w' ⟨rfl, ⟨nd, rfl⟩⟩; refine ⟨_, rfl, ?_⟩))
        go_ret2
        exact ⟨by first | rfl | (simp; done) | (simp [*]; done), by repeat (first | exact Drawn0.refl _ | apply Drawn0.step)⟩
end Go.Proofs.YtglgipggefpoiaaGreatDoor.PAll
end
section
set_option linter.unusedVariables false
set_option linter.unusedSimpArgs false
namespace Go.Proofs.YtglgipggefpoiaaGreatDoor.SF
open Go.RowKit Go.Sx Go.Proofs.YtglgipggefpoiaaGreatDoor.PAll Go.Proofs.YtglgipggefpoiaaGreatDoorW.PrintWords Go.Proofs.YtglgipggefpoiaaGreatDoorW.PrintLast Go.Proofs.YtglgipggefpoiaaGreatDoorW.PrintMore
theorem tol (s : ByteArray) : s.toList = s.data.toList := ByteArray.toList_eq s
theorem tol_eq {s t : ByteArray} : (s.toList == t.toList) = decide (s.data.toList = t.data.toList) := by
  rw [tol, tol, Bool.eq_iff_iff]; simp
def isDg (c : UInt8) : Prop := 48 ≤ c.toNat ∧ c.toNat ≤ 57
instance (c : UInt8) : Decidable (isDg c) := inferInstanceAs (Decidable (_ ∧ _))
def dv : Nat → List UInt8 → Option Nat
  | acc, [] => some acc
  | acc, c :: r => if isDg c then dv (acc * 10 + (c.toNat - 48)) r else none
theorem dv_app : ∀ (l : List UInt8) (acc : Nat) (c : UInt8), dv acc (l ++ [c]) = (dv acc l).bind fun v => if isDg c then some (v * 10 + (c.toNat - 48)) else none
  | [], acc, c => by simp [dv]
  | x :: l, acc, c => by
    simp only [List.cons_append, dv]
    split
    · exact dv_app l _ c
    · rfl
theorem dv_le : ∀ (l : List UInt8) (acc v : Nat), dv acc l = some v → acc ≤ v
  | [], acc, v, h => by cases h; exact Nat.le_refl _
  | c :: l, acc, v, h => by
    simp only [dv] at h
    split at h
    · have := dv_le l _ v h; omega
    · cases h
theorem dig_toNat {n : Nat} (h : n < 10) : (UInt8.ofNat (48 + n)).toNat = 48 + n := by simp; omega
theorem isDg_of {n : Nat} (h : n < 10) : isDg (UInt8.ofNat (48 + n)) := by unfold isDg; rw [dig_toNat h]; omega
theorem dv_dec (u : Nat) : dv 0 (Lib.decDigits u) = some u := by
  induction u using Nat.strongRecOn with
  | _ u ih =>
    rw [Lib.decDigits]
    split
    · rename_i h
      simp only [dv, isDg_of h, if_true, dig_toNat h]
      congr 1; omega
    · rename_i h
      have hm : u % 10 < 10 := Nat.mod_lt _ (by decide)
      rw [dv_app, ih (u / 10) (by omega)]
      simp only [Option.bind_some, isDg_of hm, if_true, dig_toNat hm]
      congr 1; omega
theorem dec_dg (u : Nat) : ∀ c ∈ Lib.decDigits u, isDg c := by
  induction u using Nat.strongRecOn with
  | _ u ih =>
    intro c hc
    rw [Lib.decDigits] at hc
    split at hc
    · rename_i h
      rw [List.mem_singleton.1 hc]; exact isDg_of h
    · rename_i h
      rcases List.mem_append.1 hc with hc | hc
      · exact ih (u / 10) (by omega) c hc
      · rw [List.mem_singleton.1 hc]; exact isDg_of (Nat.mod_lt _ (by decide))
theorem dec_ne (u : Nat) : Lib.decDigits u ≠ [] := by
  intro h
  have := Lib.decDigits_length u
  rw [h] at this
  have := Lib.nDigits_pos u
  simp at *
  omega
theorem hd_app {l : List UInt8} {x c : UInt8} (h : l.head? = some x) : (l ++ [c]).head? = some x := by
  cases l with
  | nil => cases h
  | cons y r => exact h
theorem hd_app' {l : List UInt8} {x c : UInt8} (hl : l ≠ []) (h : (l ++ [c]).head? = some x) : l.head? = some x := by
  cases l with
  | nil => exact absurd rfl hl
  | cons y r => exact h
theorem dec_head (u : Nat) (h0 : 0 < u) : ∀ c, (Lib.decDigits u).head? = some c → c.toNat ≠ 48 := by
  induction u using Nat.strongRecOn with
  | _ u ih =>
    intro c hc
    rw [Lib.decDigits] at hc
    split at hc
    · rename_i h
      cases hc
      rw [dig_toNat h]; omega
    · rename_i h
      exact ih (u / 10) (by omega) (by omega) c (hd_app' (dec_ne _) hc)
theorem dec_of : ∀ (n : Nat) (l : List UInt8) (u : Nat), l.length = n → l ≠ [] → dv 0 l = some u → ((∀ c, l.head? = some c → c.toNat ≠ 48) ∨ l.length = 1) → l = Lib.decDigits u
  | 0, l, u, hn, hne, _, _ => absurd (List.eq_nil_of_length_eq_zero hn) hne
  | n + 1, l, u, hn, hne, hd, hh => by
    obtain ⟨l', c, rfl⟩ : ∃ l' c, l = l' ++ [c] := ⟨l.dropLast, l.getLast hne, (List.dropLast_concat_getLast hne).symm⟩
    rw [dv_app] at hd
    cases hv : dv 0 l' with
    | none => rw [hv] at hd; cases hd
    | some v =>
      rw [hv] at hd
      simp only [Option.bind_some] at hd
      split at hd
      · rename_i hc
        cases hd
        obtain ⟨hc1, hc2⟩ := hc
        have e : UInt8.ofNat (48 + (c.toNat - 48)) = c := by
          have : 48 + (c.toNat - 48) = c.toNat := by omega
          rw [this]; simp
        by_cases hl : l' = []
        · subst hl
          cases hv
          rw [Nat.zero_mul, Nat.zero_add, Lib.decDigits, dif_pos (by omega), e]
          rfl
        · have hlen : l'.length = n := by simpa using hn
          have hh' : ∀ x, l'.head? = some x → x.toNat ≠ 48 := by
            intro x hx
            rcases hh with hh | hh
            · exact hh x (hd_app hx)
            · have := List.length_pos_iff.2 hl
              simp at hh
              exact absurd hh hl
          have ih := dec_of n l' v hlen hl hv (.inl hh')
          have hv0 : 0 < v := by
            rcases Nat.eq_zero_or_pos v with h0 | h0
            · subst h0
              rw [Lib.decDigits, dif_pos (by decide)] at ih
              rw [ih] at hh'
              exact absurd rfl (hh' _ rfl)
            · exact h0
          have e2 : (v * 10 + (c.toNat - 48)) / 10 = v := by omega
          have e3 : (v * 10 + (c.toNat - 48)) % 10 = c.toNat - 48 := by omega
          rw [Lib.decDigits, dif_neg (by omega), e2, e3, e, ← ih]
      · cases hd
def udec (M : Nat) (l : List UInt8) : Option Nat := match dv 0 l with
  | some v => if v ≤ M ∧ Lib.decDigits v = l then some v else none
  | none => none
theorem udec_some {M u : Nat} {l : List UInt8} : udec M l = some u ↔ u ≤ M ∧ l = Lib.decDigits u := by
  unfold udec
  constructor
  · intro h
    split at h
    · split at h
      · rename_i v hv hc; cases h; exact ⟨hc.1, hc.2.symm⟩
      · cases h
    · cases h
  · rintro ⟨h1, rfl⟩
    rw [dv_dec]
    exact if_pos ⟨h1, rfl⟩
theorem udec_nil (M : Nat) : udec M [] = none := by
  cases hx : udec M [] with
  | none => rfl
  | some v => obtain ⟨_, hv⟩ := udec_some.1 hx; exact absurd hv.symm (dec_ne v)
theorem parseM_ok {M : Nat} (hM : M < 18446744073709551616) : ∀ (l : List UInt8) (acc v : Nat), acc ≤ M → (Lib.parseUintM M acc l = .ok v ↔ dv acc l = some v ∧ v ≤ M)
  | [], acc, v, ha => by
    simp only [Lib.parseUintM, dv, Lib.NumEnd.ok.injEq, Option.some.injEq]
    constructor
    · rintro rfl; exact ⟨rfl, ha⟩
    · exact fun h => h.1
  | c :: r, acc, v, ha => by
    simp only [Lib.parseUintM, dv]
    by_cases hc : 48 ≤ c.toNat ∧ c.toNat ≤ 57
    · rw [if_pos hc, if_pos (show isDg c from hc)]
      by_cases h1 : 1844674407370955162 ≤ acc
      · rw [if_pos h1]
        constructor
        · intro h; cases h
        · rintro ⟨h, h2⟩
          have := dv_le r _ v h
          omega
      · rw [if_neg h1]
        by_cases h2 : M < acc * 10 + (c.toNat - 48)
        · rw [if_pos h2]
          constructor
          · intro h; cases h
          · rintro ⟨h, h3⟩
            have := dv_le r _ v h
            omega
        · rw [if_neg h2]
          exact parseM_ok hM r _ v (by omega)
    · rw [if_neg hc, if_neg (show ¬ isDg c from hc)]
      constructor
      · intro h; cases h
      · rintro ⟨h, _⟩; cases h
theorem parseB_ok {l : List UInt8} {v : Nat} : Lib.parseUintB 64 l = .ok v ↔ l ≠ [] ∧ dv 0 l = some v ∧ v ≤ 18446744073709551615 := by
  unfold Lib.parseUintB
  by_cases h : l = []
  · rw [if_pos h]
    constructor
    · intro h; cases h
    · rintro ⟨h1, _⟩; exact absurd h h1
  · rw [if_neg h]
    have e : 2 ^ 64 - 1 = 18446744073709551615 := by decide
    rw [e, parseM_ok (by decide) l 0 v (by omega)]
    exact ⟨fun x => ⟨h, x⟩, fun x => x.2⟩
theorem ubs_data (v : Nat) : (ubs v).data.toList = Lib.decDigits v := by simp [ubs]
theorem ibs_data (v : Int) : (ibs v).data.toList = Lib.itoa v := by simp [ibs]
theorem uintP_udec (s : ByteArray) : uintP s = udec 18446744073709551615 s.data.toList := by
  unfold uintP
  cases h : udec 18446744073709551615 s.data.toList with
  | some u =>
    obtain ⟨h1, h2⟩ := udec_some.1 h
    have : Lib.parseUintB 64 s.data.toList = .ok u := parseB_ok.2 ⟨by rw [h2]; exact dec_ne u, by rw [h2]; exact dv_dec u, h1⟩
    rw [this]
    simp only [tol_eq, ubs_data]
    rw [if_pos (by simp [h2])]
  | none =>
    split
    · rename_i v hv
      obtain ⟨_, h2, h3⟩ := parseB_ok.1 hv
      split
      · rename_i hc
        rw [tol_eq, ubs_data] at hc
        have hc2 := of_decide_eq_true hc
        rw [udec_some.2 ⟨h3, hc2.symm⟩] at h
        cases h
      · rfl
    · rfl
def idec (l : List UInt8) : Option Int := match l with
  | [] => none
  | c :: r => if c = 45 then match udec 9223372036854775808 r with
      | some u => if u = 0 then none else some (-(u : Int))
      | none => none
    else (udec 9223372036854775807 l).map fun u : Nat => (u : Int)
theorem itoa_head (v : Int) : ∀ c, (Lib.itoa v).head? = some c → c ≠ 43 := by
  intro c hc
  unfold Lib.itoa at hc
  split at hc
  · cases hc; decide
  · rintro rfl
    obtain ⟨x, t, e⟩ := List.exists_cons_of_ne_nil (dec_ne v.toNat)
    rw [e] at hc
    cases hc
    have := dec_dg v.toNat 43 (by rw [e]; simp)
    exact absurd this.1 (by decide)
theorem numP_idec (s : ByteArray) : numP s = idec s.data.toList := by
  unfold numP
  generalize hl : s.data.toList = l
  have key : ∀ v : Int, ((ibs v).toList == s.toList) = decide (Lib.itoa v = l) := fun v => by rw [tol_eq, ibs_data, hl]
  simp only [key]
  cases l with
  | nil => rfl
  | cons c r =>
    have hmag : ∀ {l : List UInt8} {u : Nat}, Lib.parseMag l = .ok u ↔ l ≠ [] ∧ dv 0 l = some u ∧ u ≤ 18446744073709551615 := by
      intro l u; rw [← Lib.parseUintB_64]; exact parseB_ok
    by_cases h45 : c = 45
    · subst h45
      have e : Lib.atoiAll (45 :: r) = (match Lib.parseMag r with | .syntax => .syntax | .range => .range | .ok u => if 9223372036854775808 < u then .range else .ok (-(u : Int))) := by
        unfold Lib.atoiAll
        simp
        cases Lib.parseMag r <;> rfl
      rw [e]
      show _ = match udec 9223372036854775808 r with | some u => if u = 0 then none else some (-(u : Int)) | none => none
      have it : ∀ u : Nat, (Lib.itoa (-(u : Int)) = 45 :: r) ↔ (u ≠ 0 ∧ r = Lib.decDigits u) := by
        intro u
        by_cases h0 : u = 0
        · subst h0
          constructor
          · intro h
            have : Lib.itoa (-((0 : Nat) : Int)) = [48] := by rw [show (-((0 : Nat) : Int)) = ((0 : Nat) : Int) from rfl, Lib.itoa_nonneg, Lib.decDigits, dif_pos (by decide)]; rfl
            rw [this] at h
            cases h
          · rintro ⟨h, _⟩; exact absurd rfl h
        · rw [Lib.itoa_neg u (by omega)]
          constructor
          · intro h; cases h; exact ⟨h0, rfl⟩
          · rintro ⟨_, rfl⟩; rfl
      cases hm : Lib.parseMag r with
      | ok u =>
        obtain ⟨h1, h2, h3⟩ := hmag.1 hm
        simp only
        by_cases hb : 9223372036854775808 < u
        · rw [if_pos hb]
          have : udec 9223372036854775808 r = none := by unfold udec; rw [h2]; simp only; rw [if_neg (fun h => by omega)]
          rw [this]
        · rw [if_neg hb]
          simp only [it]
          by_cases hd : r = Lib.decDigits u
          · rw [udec_some.2 ⟨by omega, hd⟩]
            by_cases h0 : u = 0
            · simp [h0]
            · simp [h0, hd]
          · have hu : udec 9223372036854775808 r = none := by
              cases hx : udec 9223372036854775808 r with
              | none => rfl
              | some v =>
                obtain ⟨_, hv⟩ := udec_some.1 hx
                rw [hv, dv_dec] at h2
                cases h2
                exact absurd hv hd
            rw [hu]
            simp [hd]
      | «syntax» =>
        have : udec 9223372036854775808 r = none := by
          cases hu : udec 9223372036854775808 r with
          | none => rfl
          | some u =>
            obtain ⟨h1, rfl⟩ := udec_some.1 hu
            rw [hmag.2 ⟨dec_ne u, dv_dec u, by omega⟩] at hm
            cases hm
        rw [this]
      | range =>
        have : udec 9223372036854775808 r = none := by
          cases hu : udec 9223372036854775808 r with
          | none => rfl
          | some u =>
            obtain ⟨h1, rfl⟩ := udec_some.1 hu
            rw [hmag.2 ⟨dec_ne u, dv_dec u, by omega⟩] at hm
            cases hm
        rw [this]
    · have hc45 : ¬ c.toNat = 45 := fun h => h45 (UInt8.toNat_inj.1 h)
      show _ = if c = 45 then _ else _
      rw [if_neg h45]
      by_cases h43 : c = 43
      · subst h43
        have : ∀ v : Int, decide (Lib.itoa v = 43 :: r) = false := fun v => by
          rw [decide_eq_false_iff_not]
          intro h
          exact itoa_head v 43 (by rw [h]; rfl) rfl
        simp only [this]
        have hu : udec 9223372036854775807 (43 :: r) = none := by
          unfold udec; rw [show dv 0 (43 :: r) = none from by rw [dv, if_neg (by decide)]]
        rw [hu]
        split <;> rfl
      · have hc43 : ¬ c.toNat = 43 := fun h => h43 (UInt8.toNat_inj.1 h)
        have e : Lib.atoiAll (c :: r) = (match Lib.parseMag (c :: r) with | .syntax => .syntax | .range => .range | .ok u => if 9223372036854775808 ≤ u then .range else .ok (u : Int)) := by
          unfold Lib.atoiAll
          simp [hc45, hc43]
          cases Lib.parseMag (c :: r) <;> rfl
        rw [e]
        cases hm : Lib.parseMag (c :: r) with
        | ok u =>
          obtain ⟨h1, h2, h3⟩ := hmag.1 hm
          simp only
          unfold udec
          rw [h2]
          simp only
          by_cases hb : 9223372036854775808 ≤ u
          · rw [if_pos hb, if_neg (fun h => by omega)]; rfl
          · rw [if_neg hb]
            simp only [Lib.itoa_nonneg]
            by_cases hd : Lib.decDigits u = c :: r
            · rw [if_pos (by simp [hd]), if_pos ⟨by omega, hd⟩]; rfl
            · rw [if_neg (by simp [hd]), if_neg (fun h => hd h.2)]; rfl
        | «syntax» =>
          cases hu : udec 9223372036854775807 (c :: r) with
          | none => rfl
          | some u =>
            obtain ⟨h1, h2⟩ := udec_some.1 hu
            rw [h2, hmag.2 ⟨dec_ne u, dv_dec u, by omega⟩] at hm
            cases hm
        | range =>
          cases hu : udec 9223372036854775807 (c :: r) with
          | none => rfl
          | some u =>
            obtain ⟨h1, h2⟩ := udec_some.1 hu
            rw [h2, hmag.2 ⟨dec_ne u, dv_dec u, by omega⟩] at hm
            cases hm
theorem bt_nat (s : ByteArray) (i : Nat) (h : i < s.size) : ∃ c : UInt8, bt s (i : Int) = (c.toNat : Int) ∧ s.data.toList.drop i = c :: s.data.toList.drop (i + 1) := by
  refine ⟨UInt8.ofNat (bt s (i : Int)).toNat, ?_, drop_at s i h⟩
  have hr := bt_range s (i : Int)
  simp
  omega
theorem rdig_l0 (s : ByteArray) (M : Nat) (hM : 9 ≤ M) (hM2 : M < 18446744073709551616) (hs : s.size ≤ 1000) : ∀ (d i n k : Nat), s.size - i = d → i ≤ s.size → n ≤ M → 2 * d + 2 ≤ k →
    paternosterref24_digits.l0 k s (M : Int) (n : Int) (i : Int) = some (match dv n (s.data.toList.drop i) with | some v => if v ≤ M then ((v : Int), true) else (0, false) | none => (0, false))
  | 0, i, n, k + 1, hd, hi, hn, hk => by
    rw [paternosterref24_digits.l0, if_neg (by omega)]
    have : s.data.toList.drop i = [] := List.drop_of_length_le (by simp; show s.size ≤ i; omega)
    rw [this]
    simp [dv, hn]
  | d + 1, i, n, k + 2, hd, hi, hn, hk => by
    have hil : i < s.size := by omega
    obtain ⟨c, hb, hdr⟩ := bt_nat s i hil
    have hw1 : wrap64 ((i : Int) + 1) = ((i + 1 : Nat) : Int) := by unfold wrap64; omega
    rw [paternosterref24_digits.l0, if_pos (by omega), if_pos (by omega), hb, hdr]
    simp only [dv]
    have hc : c.toNat < 256 := c.toNat_lt
    by_cases h1 : (c.toNat : Int) < 48
    · rw [if_pos h1, paternosterref24_digits.j2, if_pos rfl, if_neg (show ¬ isDg c from fun h => by have := h.1; omega)]
    · rw [if_neg h1, paternosterref24_digits.j2]
      by_cases h2 : (c.toNat : Int) > 57
      · rw [if_pos (by simpa using h2), if_neg (show ¬ isDg c from fun h => by have := h.2; omega)]
      · have hd9 : c.toNat - 48 ≤ 9 := by omega
        have e1 : ((c.toNat : Int) - 48) % 256 = ((c.toNat - 48 : Nat) : Int) := by omega
        rw [if_neg (by simpa using h2), if_pos (show isDg c from ⟨by omega, by omega⟩), if_pos (by omega), if_pos (by omega), hb, hw1, e1]
        have e2 : IntKind.u64.wrap ((M : Int) - ((c.toNat - 48 : Nat) : Int)) = ((M - (c.toNat - 48) : Nat) : Int) := by rw [wu64 (by omega)]; omega
        have e3 : Int.tdiv ((M - (c.toNat - 48) : Nat) : Int) 10 = (((M - (c.toNat - 48)) / 10 : Nat) : Int) := by rw [Int.tdiv_eq_ediv_of_nonneg (by omega)]; omega
        have e4 : IntKind.u64.wrap (((M - (c.toNat - 48)) / 10 : Nat) : Int) = (((M - (c.toNat - 48)) / 10 : Nat) : Int) := wu64 (by omega)
        rw [e2, e3, e4]
        by_cases h3 : (n : Int) > (((M - (c.toNat - 48)) / 10 : Nat) : Int)
        · rw [if_pos h3]
          cases hv : dv (n * 10 + (c.toNat - 48)) (s.data.toList.drop (i + 1)) with
          | none => rfl
          | some v =>
            have := dv_le _ _ v hv
            simp only
            rw [if_neg (by omega)]
        · rw [if_neg h3]
          have hn2 : n * 10 + (c.toNat - 48) ≤ M := by omega
          have e5 : IntKind.u64.wrap (10 * (n : Int)) = ((10 * n : Nat) : Int) := by rw [wu64 (by omega)]; omega
          have e6 : IntKind.u64.wrap (((10 * n : Nat) : Int) + ((c.toNat - 48 : Nat) : Int)) = ((n * 10 + (c.toNat - 48) : Nat) : Int) := by rw [wu64 (by omega)]; omega
          rw [e5, e6]
          exact rdig_l0 s M hM hM2 hs d (i + 1) _ k (by omega) (by omega) hn2 (by omega)
theorem dec_len {u : Nat} (h : u < 18446744073709551616) : (Lib.decDigits u).length ≤ 20 := by
  have := ubs_size h
  have e : (ubs u).size = (Lib.decDigits u).length := by rw [← ubs_data]; rfl
  omega
theorem rdig_ev (s : ByteArray) (M : Nat) (hM : 9 ≤ M) (hM2 : M < 18446744073709551616) {k : Nat} (hk : 50 ≤ k) :
    paternosterref24_digits.f k s (M : Int) = some (match udec M s.data.toList with | some v => ((v : Int), true) | none => (0, false)) := by
  obtain ⟨k, rfl⟩ : ∃ j, k = j + 1 := ⟨k - 1, by omega⟩
  have hlen : s.data.toList.length = s.size := by simp
  unfold paternosterref24_digits.f
  by_cases h0 : s.toList = []
  · rw [if_pos h0, paternosterref24_digits.j0, if_pos rfl]
    rw [tol] at h0
    have : udec M s.data.toList = none := by
      cases hx : udec M s.data.toList with
      | none => rfl
      | some v => obtain ⟨_, hv⟩ := udec_some.1 hx; rw [h0] at hv; exact absurd hv.symm (dec_ne v)
    rw [this]
  · have hne : s.data.toList ≠ [] := by rw [← tol]; exact h0
    have hpos : 0 < s.size := by rw [← hlen]; exact List.length_pos_iff.2 hne
    rw [if_neg h0]
    by_cases h1 : (s.size : Int) > 20
    · rw [if_pos h1, paternosterref24_digits.j0, if_pos rfl]
      have : udec M s.data.toList = none := by
        cases hx : udec M s.data.toList with
        | none => rfl
        | some v =>
          obtain ⟨hv1, hv⟩ := udec_some.1 hx
          have := dec_len (u := v) (by omega)
          rw [← hv, hlen] at this
          omega
      rw [this]
    · rw [if_neg h1, if_pos (by omega)]
      obtain ⟨c, hb, hdr⟩ := bt_nat s 0 hpos
      rw [List.drop_zero] at hdr
      rw [show (0 : Int) = ((0 : Nat) : Int) from rfl, hb]
      have hfin : ((c.toNat ≠ 48) ∨ s.size = 1) → paternosterref24_digits.l0 k s (M : Int) ((0 : Nat) : Int) ((0 : Nat) : Int) = some (match udec M s.data.toList with | some v => ((v : Int), true) | none => (0, false)) := by
        intro hf
        rw [rdig_l0 s M hM hM2 (by omega) s.size 0 0 k (by omega) (by omega) (by omega) (by omega), List.drop_zero]
        unfold udec
        cases hv : dv 0 s.data.toList with
        | none => rfl
        | some v =>
          have e := dec_of s.size s.data.toList v hlen hne hv (hf.elim (fun h => .inl (fun x hx => by rw [hdr] at hx; cases hx; exact h)) (fun h => .inr (by rw [hlen]; exact h)))
          simp only
          by_cases hvm : v ≤ M
          · rw [if_pos hvm, if_pos ⟨hvm, e.symm⟩]
          · rw [if_neg hvm, if_neg (fun h => hvm h.1)]
      by_cases h2 : (c.toNat : Int) = 48
      · rw [if_pos h2]
        by_cases h3 : (s.size : Int) > 1
        · rw [decide_eq_true h3, paternosterref24_digits.j0, if_pos rfl]
          have : udec M s.data.toList = none := by
            cases hx : udec M s.data.toList with
            | none => rfl
            | some v =>
              obtain ⟨hv1, hv⟩ := udec_some.1 hx
              rcases Nat.eq_zero_or_pos v with hz | hz
              · subst hz
                rw [Lib.decDigits, dif_pos (by decide)] at hv
                rw [hv] at hlen
                simp at hlen
                omega
              · have := dec_head v hz c (by rw [← hv, hdr]; rfl)
                omega
          rw [this]; rfl
        · rw [decide_eq_false h3, paternosterref24_digits.j0, if_neg (by simp)]
          exact hfin (.inr (by omega))
      · rw [if_neg h2, paternosterref24_digits.j0, if_neg (by simp)]
        exact hfin (.inl (by omega))
theorem rnum_ev (s : ByteArray) {k : Nat} (hk : 51 ≤ k) : paternosterref24_number.f k s = some (match numP s with | some v => (v, true) | none => (0, false)) := by
  obtain ⟨k, rfl⟩ : ∃ j, k = j + 1 := ⟨k - 1, by omega⟩
  have hlen : s.data.toList.length = s.size := by simp
  have hpl : paternosterref24_number.j0 (k + 1) s false = some (match (udec 9223372036854775807 s.data.toList).map (fun u : Nat => (u : Int)) with | some v => (v, true) | none => (0, false)) := by
    rw [paternosterref24_number.j0, if_neg (by simp), show (9223372036854775807 : Int) = ((9223372036854775807 : Nat) : Int) from rfl, rdig_ev s _ (by decide) (by decide) (by omega)]
    cases hu : udec 9223372036854775807 s.data.toList with
    | none =>
      simp only [Option.bind_some, Option.map_none]
      rw [show wrap64 0 = 0 from by unfold wrap64; decide]
    | some u =>
      have := (udec_some.1 hu).1
      simp only [Option.bind_some, Option.map_some]
      rw [show wrap64 (u : Int) = u from by unfold wrap64; omega]
  rw [numP_idec]
  unfold paternosterref24_number.f
  by_cases h0 : s.toList = []
  · rw [if_pos h0, hpl]
    rw [tol] at h0
    rw [h0, udec_nil]
    rfl
  · have hne : s.data.toList ≠ [] := by rw [← tol]; exact h0
    have hpos : 0 < s.size := by rw [← hlen]; exact List.length_pos_iff.2 hne
    rw [if_neg h0, if_pos (by omega)]
    obtain ⟨c, hb, hdr⟩ := bt_nat s 0 hpos
    rw [List.drop_zero] at hdr
    have hb' : bt s 0 = (c.toNat : Int) := hb
    rw [hb']
    by_cases h1 : c = 45
    · subst h1
      rw [show (((45 : UInt8).toNat : Int) == 45) = true from rfl, paternosterref24_number.j0, if_pos rfl, if_pos (by omega), show (9223372036854775808 : Int) = ((9223372036854775808 : Nat) : Int) from rfl, rdig_ev _ _ (by decide) (by decide) (by omega)]
      have e : (s.extract 1 s.size).data.toList = s.data.toList.drop 1 := Lib.extract_to_end s 1
      rw [e, hdr]
      simp only [List.drop_succ_cons, List.drop_zero, idec, if_true]
      cases hu : udec 9223372036854775808 (s.data.toList.drop 1) with
      | none => rfl
      | some u =>
        have hu1 := (udec_some.1 hu).1
        simp only [Option.bind_some]
        by_cases hz : u = 0
        · subst hz; rfl
        · rw [if_neg (by omega), if_neg hz]
          have e1 : IntKind.u64.wrap ((u : Int) - 1) = (u : Int) - 1 := wu64 (by omega)
          rw [e1]
          have e2 : wrap64 ((wrap64 (-(wrap64 ((u : Int) - 1)))) - 1) = -(u : Int) := by unfold wrap64; omega
          rw [e2]
    · have hc : ((c.toNat : Int) == 45) = false := by
        rw [beq_eq_false_iff_ne]
        intro h
        exact h1 (UInt8.toNat_inj.1 (by simpa using (by omega : c.toNat = 45)))
      rw [hc, hpl, hdr]
      rw [idec, if_neg h1]
end Go.Proofs.YtglgipggefpoiaaGreatDoor.SF
end
section
namespace Go.Proofs.YtglgipggefpoiaaGreatDoor.SF
open Go.RowKit Go.Sx Go.Proofs.YtglgipggefpoiaaGreatDoor.PAll Go.Proofs.YtglgipggefpoiaaGreatDoorW.PrintWords Go.Proofs.YtglgipggefpoiaaGreatDoorW.PrintLast Go.Proofs.YtglgipggefpoiaaGreatDoorW.PrintMore
set_option linter.unusedVariables false
set_option linter.unusedSimpArgs false
set_option maxRecDepth 100000
def c49 (e : S49) : List Value := [.int .i64 e.f0, .int .i64 e.f1, .int .i64 e.f2]
theorem c49_at : ∀ {L : List S49} {j i : Nat} {e : S49} {u : Value}, L[j]? = some e → (c49 e)[i]? = some u → (L.flatMap c49)[j * 3 + i]? = some u
  | [], j, i, e, u, h, _ => by simp at h
  | x :: L, 0, i, e, u, h, hu => by
    cases h
    have hi : i < 3 := (List.getElem?_eq_some_iff.1 hu).1
    rw [List.flatMap_cons, Nat.zero_mul, Nat.zero_add, List.getElem?_append_left (by simpa [c49] using hi)]
    exact hu
  | x :: L, j + 1, i, e, u, h, hu => by
    have := c49_at (L := L) (j := j) (by simpa using h) hu
    rw [List.flatMap_cons, List.getElem?_append_right (by simp [c49]; omega)]
    rw [show (j + 1) * 3 + i - (c49 x).length = j * 3 + i by simp [c49]; omega]
    exact this
theorem rowE_of {w : World} {A : Option Addr} {n c : Nat} {L : List S49} (h : w.ownsRow 0 49 3 (.slice A n c) n (L.flatMap c49)) (hn : n = L.length) (hb : L.length ≤ 1000000) : RowE w (A, c) L := by
  subst hn
  rcases h.2 with ⟨e, e0⟩ | ⟨g, cap, cur, e, hg, hh, hle, hm, hs, ht⟩
  · have : L = [] := List.eq_nil_of_length_eq_zero e0
    subst this
    exact ⟨Nat.zero_le _, rfl, by decide, fun h => absurd h (by decide)⟩
  · cases e
    refine ⟨hle, rfl, by omega, fun _ => ⟨_, rfl, fun j x hx => ⟨c49 x, rfl, k49_mk w x, fun i u hu => ?_⟩⟩⟩
    have h1 := c49_at hx hu
    rw [← ht, List.getElem?_take] at h1
    split at h1
    · show w.cell? ((⟨g, 0, none⟩ : Addr).add (j * 3 + i)) = some u
      rw [Addr.add_lit, Nat.zero_add, cell_of_row w g _ cur 49 (0, 0) hh]; simpa using h1
    · cases h1
theorem rowE_nil (w : World) : RowE w (none, 0) [] := ⟨Nat.zero_le _, rfl, by decide, fun h => absurd h (by decide)⟩
theorem strsG_of {w : World} {b : Nat} {ws : List ByteArray} (h : StrsAt w (some ⟨b, 0, none⟩) ws) : StrsG b w (some ⟨b, 0, none⟩) ws := fun hne => by
  obtain ⟨b2, o, e, hc⟩ := h hne
  cases e
  exact ⟨0, rfl, hc⟩
end Go.Proofs.YtglgipggefpoiaaGreatDoor.SF
end
