/- The walk of (Calls).Many, by hand (no statement stands here). -/
import Derived.Test.YthjmlmognbenoaaDoorBits
namespace Go.Proofs.YthjmlmognbenoaaDoor.PAll
open Go.RowKit Go.Proofs.YthjmlmognbenoaaDoorW.PrintWords Go.Proofs.YthjmlmognbenoaaDoorW.PrintLast Go.Proofs.YthjmlmognbenoaaDoorW.PrintMore
set_option linter.unusedVariables false
set_option linter.unusedSimpArgs false
def onesL (l : List Int) : Int := (l.map onesI).sum
theorem onesI_le (x : Int) : 0 ≤ onesI x ∧ onesI x ≤ 32 := by
  have e1 := pop8_le (x / 16777216).toNat
  have e2 := pop8_le (x / 65536 % 256).toNat
  have e3 := pop8_le (x / 256 % 256).toNat
  have e4 := pop8_le (x % 256).toNat
  unfold onesI
  omega
theorem onesL_le (l : List Int) : 0 ≤ onesL l ∧ onesL l ≤ 32 * l.length := by
  induction l with
  | nil => simp [onesL]
  | cons x xs ih =>
    have := onesI_le x
    simp only [onesL, List.map_cons, List.sum_cons, List.length_cons] at ih ⊢
    omega
theorem onesL_take (l : List Int) (i : Nat) (h : i < l.length) : onesL (l.take (i + 1)) = onesL (l.take i) + onesI (rd l (i : Int)) := by
  have hr : rd l (i : Int) = l[i] := by unfold rd; rw [Int.toNat_natCast, List.getD_eq_getElem?_getD, List.getElem?_eq_getElem h, Option.getD_some]
  rw [hr]
  unfold onesL
  rw [List.take_add_one, List.getElem?_eq_getElem h, List.map_append, List.sum_append]
  simp
theorem many_w (x : Int) (h : -4611686018427387904 ≤ x ∧ x ≤ 4611686018427387904) : wrap64 x = x := by unfold wrap64; omega
theorem many_sum (a s y T : Int) (n : Nat) (hT : T = s + y) (ha : 0 ≤ a ∧ a ≤ 32) (hb : 0 ≤ T ∧ T ≤ 32 * n) (hn : n ≤ 1000000) : wrap64 (a + s + y) = a + T := by
  have e : a + s + y = a + T := by omega
  rw [e]
  exact many_w (a + T) (by omega)
theorem many_wi (i : Nat) (h : i ≤ 1000000) : wrap64 ((i : Int) + 1) = ((i + 1 : Nat) : Int) := (many_w ((i : Int) + 1) (by omega)).trans (by omega)
set_option maxRecDepth 100000 in
set_option maxHeartbeats 4000000 in
theorem Many_calls (h : Int) (A0 : Option Addr) (c0 : Nat) (l0 : List Int) (w : World) (hr0 : Kd.C (Kd.int .u32) w A0 l0.length l0) (hl : l0.length ≤ 1000000) (hh : 0 ≤ h ∧ h < 4294967296) (hb : ∀ x ∈ l0, 0 ≤ x ∧ x < 4294967296) :
    Calls Tryd.prog 18 #[.agg #[.int .u32 h, .slice A0 l0.length c0]] w fun e w' => e = .returned (.int .i64 (onesI h + onesL l0)) ∧ Below w.heap.size w w' := by
  have hu27 := Tryd.underlying27
  have HR0 := Aside0.mk hr0
  have HL := Aside0.mk hl
  have HH := Aside0.mk hh
  have HBB := Aside0.mk hb
  have HG0 := Aside0.mk (blk_new w (.cells #[.int .u32 h, .slice A0 l0.length c0] 27))
  have HB0 := Aside0.mk (below_alloc (Below.refl w.heap.size w) (.cells #[.int .u32 h, .slice A0 l0.length c0] 27))
  clear hr0 hl hh hb
  go_enter Tryd.func18, Tryd.ntmps18
  go_wp2_with (first | (go_at_call 25; refine (ones_calls h HH.out _).mono ?_; rintro e w' ⟨rfl, ⟨nd, rfl⟩⟩))
  go_loopg [3, 12] l0.length (fun g v3 v12 w' => ∃ i : Nat, v12 = .int .i64 i ∧ v3 = .int .i64 (onesI h + onesL (l0.take i)) ∧ Aside0 (g + i = l0.length) ∧ Aside0 (Below w.heap.size w w'))
  case atStart => exact ⟨0, rfl, by simp [onesL], ⟨by omega⟩, ⟨pw_below_drewN HB0.out _⟩⟩
  case round =>
    clear HB0 HG0
    obtain ⟨i, rfl, rfl, HI, HB⟩ := hrel
    cases gk with
    | zero =>
      have hlt : decide ((i : Int) < (l0.length : Int)) = false := decide_eq_false (by have := HI.out; omega)
      have hi : i = l0.length := by have := HI.out; omega
      subst hi
      rw [List.take_length]
      go_wp2
      go_ret
      exact ⟨rfl, HB.out⟩
    | succ gko =>
      have hilt : i < l0.length := by have := HI.out; omega
      have hlt : decide ((i : Int) < (l0.length : Int)) = true := decide_eq_true (by omega)
      obtain ⟨ad1, e1, hx1⟩ := Kd.at_int HR0.out (i : Int) (by omega) (by omega)
      cases e1
      rw [Int.toNat_natCast] at hx1
      replace hx1 := (HB.out.cell (World.block_lt_of_cell? w _ hx1)).trans hx1
      have hr : rd l0 (i : Int) = l0[i] := by unfold rd; rw [Int.toNat_natCast, List.getD_eq_getElem?_getD, List.getElem?_eq_getElem hilt, Option.getD_some]
      have hbx : 0 ≤ rd l0 (i : Int) ∧ rd l0 (i : Int) < 4294967296 := by rw [hr]; exact HBB.out _ (List.getElem_mem hilt)
      have p1 : ((0 : Int) ≤ (i : Int)) = True := eq_true (by omega)
      have q1 : ((i : Int) < (l0.length : Int)) = True := eq_true (by omega)
      have hst := onesL_take l0 i hilt
      have hw : wrap64 (onesI h + onesL (l0.take i) + onesI (rd l0 (i : Int))) = onesI h + onesL (l0.take (i + 1)) := many_sum _ _ _ _ (l0.take (i + 1)).length hst (onesI_le h) (onesL_le _) (Nat.le_trans (List.length_take_le' _ _) HL.out)
      have hw2 : IntKind.i64.wrap (onesI h + onesL (l0.take i) + onesI (rd l0 (i : Int))) = onesI h + onesL (l0.take (i + 1)) := (i64_w _).trans hw
      have hwi := many_wi i (Nat.le_trans (Nat.le_of_lt hilt) HL.out)
      have HBX := Aside0.mk hbx
      clear hst hr hilt hbx
      generalize rd l0 (i : Int) = x at hx1 hw hw2 HBX
      go_wp2_with (first | (go_at_call 25; refine (ones_calls x HBX.out _).mono ?_; rintro e w' ⟨rfl, ⟨nd, rfl⟩⟩))
      go_roundg gko
      case measure => omega
      case rel => exact ⟨i + 1, by rw [hwi], by first | rfl | rw [hw], ⟨by have := HI.out; omega⟩, ⟨pw_below_drewN HB.out _⟩⟩
end Go.Proofs.YthjmlmognbenoaaDoor.PAll
