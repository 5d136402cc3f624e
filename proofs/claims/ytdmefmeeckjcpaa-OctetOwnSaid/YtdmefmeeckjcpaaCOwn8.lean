/- Texts of mine, put together (no statement stands here). -/
import Derived.Test.YtdmefmeeckjcpaaProg
import Derived.Lib.BufferMore
import Derived.RangeFuncBox
import Derived.RangeFuncNested
import Derived.RangeFuncLeaves
import Derived.Shelf.Abstract
import Derived.OwnWalkIn
import Derived.TacticsInMore
import Derived.LoopNIn
import Derived.LoopIn
import Derived.Sort.QuietIn
import Derived.Lib.Hide
import Derived.Lib.SlBytesConst
import Derived.Below
import Derived.Deep.Draws
import Derived.Deep.AppendLies
import Derived.Maps.AppendAt
import Derived.OwnWalk
import Derived.Laws.BytesArg
import Derived.Laws.MakeOwn
import Derived.Laws.OwnMore
import Derived.Deep.OwnRows
import Derived.Tactics
import Derived.Lib.ConvBytes
import Derived.Laws.Slices
import Derived.WalkKit
import Derived.KernelRfl
import Derived.RowKit3
import Derived.Deep.LoopGhost
import Derived.Deep.QuietTactic
import Derived.BigQuiet
import Derived.WideLaws
import Derived.Deep.DeepCutAuto
import Derived.Deep.CutBlock
import Derived.Deep.RegionHeld3
import Derived.Laws.Rows
import Derived.Lib.AppendStr
import Derived.ArgAppend
import Derived.Laws.IdiomCopy
import Derived.OrdersHeld
import Derived.Laws.BitsLemmas
import Derived.RowKit
import Derived.Test.YtdmefmeeckjcpaaCOwn3
import Derived.Test.YtdmefmeeckjcpaaCOwn4
import Derived.Laws.StructEq
import Derived.Test.YtdmefmeeckjcpaaCOwn7
import Derived.Test.YtdmefmeeckjcpaaCOwn5
import Derived.Lib.Bytes
import Derived.OpenShut
import Derived.Test.YtdmefmeeckjcpaaCOwn6
section
namespace Go.Proofs.Ytdmefmeeckjcpaa.PAll
open Go.RowKit Go.Proofs.YtdmefmeeckjcpaaW.PrintWords Go.Proofs.YtdmefmeeckjcpaaW.PrintLast Go.Proofs.YtdmefmeeckjcpaaW.PrintMore
attribute [local go_sem] max2_int min2_int max_two min_two max_three min_three max_four min_four
set_option linter.unusedVariables false
set_option linter.unusedSimpArgs false
def errW : Option Int → Value
  | none => .nilIface
  | some c => .iface 0 (.int .i64 c)
theorem errW_none : errW none = .nilIface := rfl
theorem errW_some (c : Int) : errW (some c) = .iface 0 (.int .i64 c) := rfl
theorem info5 : (Try.prog.info? 5).map (fun i => (i.zero, i.size, i.bytes)) = some (some (.int .u8 0), 1, 1) := by kernel_rfl
def rd_L2 (xs : List (List Int)) (i : Int) : (List Int) := xs.getD i.toNat ([] : List Int)
theorem at_L2 {w : World} {A : Option Addr} {n : Nat} {xs : List (List Int)} (h : Kd.C (Kd.slice 5 (Kd.int .u8)) w A n xs) (i : Int) (h0 : 0 ≤ i) (h1 : i < n) : ∃ ad A0 c0, A = some ad ∧ w.cell? (ad.add i.toNat) = some (.slice A0 (rd_L2 xs i).length c0) ∧ (rd_L2 xs i).length ≤ c0 ∧ (Kd.int .u8).C w A0 (rd_L2 xs i).length (rd_L2 xs i) := by
  obtain ⟨ad, c, e, _, hK, hc0⟩ := Kd.C_get h ([] : List Int) i h0 h1
  have hc : ∀ j u, c[j]? = some u → w.cell? (ad.add (i.toNat * 1 + j)) = some u := hc0
  obtain ⟨A0, c0, rfl, l0, g0⟩ := hK
  exact ⟨ad, A0, c0, e, by have hq := hc 0 _ rfl; rwa [Nat.mul_one, Nat.add_zero] at hq, l0, g0⟩
end Go.Proofs.Ytdmefmeeckjcpaa.PAll
end
section
namespace Go.Proofs.Ytdmefmeeckjcpaa.PAll
open Go.RowKit Go.Proofs.YtdmefmeeckjcpaaW.PrintWords Go.Proofs.YtdmefmeeckjcpaaW.PrintLast Go.Proofs.YtdmefmeeckjcpaaW.PrintMore
attribute [local go_sem] max2_int min2_int max_two min_two max_three min_three max_four min_four
set_option linter.unusedVariables false
set_option linter.unusedSimpArgs false
def octet_may.f (a0 : Int) : Option (Bool) := if a0 ≥ 1 then (some (decide (a0 ≤ 8))) else (some false)
set_option maxHeartbeats 8000000 in
set_option maxRecDepth 100000 in
theorem octet_may.calls (a0 : Int) (r : Bool) (w : World) (h : octet_may.f a0 = some r) :
    Calls Try.prog 10 #[.int .i64 a0] w fun e w' => e = .returned (.bool r) ∧ Drawn0 w w' := by
  have H : (if a0 ≥ 1 then (some (decide (a0 ≤ 8))) else (some false)) = some r := h
  clear h
  by_cases c2 : a0 ≥ 1
  · rw [if_pos c2] at H
    have c2b0 : decide (1 ≤ a0) = true := decide_eq_true c2
    clear c2
    obtain rfl := Option.some.inj H
    go_enter Try.func10, Try.ntmps10
    go_wp2
    go_ret
    exact ⟨by first | rfl | (simp; done) | (simp [*]; done), by repeat (first | exact Drawn0.refl _ | apply Drawn0.step)⟩
  · rw [if_neg c2] at H
    have c2b0 : decide (1 ≤ a0) = false := decide_eq_false c2
    clear c2
    obtain rfl := Option.some.inj H
    go_enter Try.func10, Try.ntmps10
    go_wp2
    go_ret
    exact ⟨by first | rfl | (simp; done) | (simp [*]; done), by repeat (first | exact Drawn0.refl _ | apply Drawn0.step)⟩
end Go.Proofs.Ytdmefmeeckjcpaa.PAll
end
section
namespace Go.Proofs.Ytdmefmeeckjcpaa.PAll
open Go.RowKit Go.Proofs.YtdmefmeeckjcpaaW.PrintWords Go.Proofs.YtdmefmeeckjcpaaW.PrintLast Go.Proofs.YtdmefmeeckjcpaaW.PrintMore
attribute [local go_sem] max2_int min2_int max_two min_two max_three min_three max_four min_four
set_option linter.unusedVariables false
set_option linter.unusedSimpArgs false
mutual
def octet_Put.l0 : Nat → Int → List Int → List Int → Int → Int → Option (List Int)
  | 0, _, _, _, _, _ => none
  | k + 1, x0, x5, x12, x13, x14 => if x14 < x13 then (if 0 ≤ x14 then (if x14 < (x12.length : Int) then (octet_Put.l1 k x0 x5 (rd x12 x14) x12 x13 x14 x0 0) else (none)) else (none)) else (some x5)
def octet_Put.l1 : Nat → Int → List Int → Int → List Int → Int → Int → Int → Int → Option (List Int)
  | 0, _, _, _, _, _, _, _, _ => none
  | k + 1, x0, x5, x7, x12, x13, x14, x18, x19 => if x19 < x18 then (if 0 ≤ (wrap64 (8 * x19)) then (if x5.length < 140737488355328 then (octet_Put.l1 k x0 (x5 ++ [(shr .u64 x7 (wrap64 (8 * x19))) % 256]) x7 x12 x13 x14 x18 (wrap64 (x19 + 1))) else (none)) else (none)) else (octet_Put.l0 k x0 x5 x12 x13 (wrap64 (x14 + 1)))
end
def octet_Put.f (k : Nat) (a0 : Int) (l1 : List Int) : Option (List Int) := (octet_may.f a0).bind fun t101 => (if t101 = true then (octet_Put.l0 k a0 ([] : List Int) l1 (l1.length : Int) 0) else (some ([] : List Int)))
set_option maxHeartbeats 8000000 in
set_option maxRecDepth 100000 in
theorem octet_Put.calls (k : Nat) (a0 : Int) (A1 : Option Addr) (c1 : Nat) (l1 : List Int) (r : List Int) (w : World) (hr1 : Kd.C (Kd.int .u64) w A1 l1.length l1) (hc1 : l1.length ≤ c1) (h : octet_Put.f k a0 l1 = some r) :
    Calls Try.prog 7 #[.int .i64 a0, .slice A1 l1.length c1] w fun e w' => ∃ v0_ : Value, e = .returned (v0_) ∧ Kd.R (Kd.int .u8) 5 w' w.heap.size (fun _ => True) v0_ r ∧ Below w.heap.size w w' := by
  have HR1 := Aside0.mk hr1
  have HC1 := Aside0.mk hc1
  clear hr1 hc1
  have HB := Aside0.mk (Below.refl w.heap.size w)
  have H : ((octet_may.f a0).bind fun t101 => (if t101 = true then (octet_Put.l0 k a0 ([] : List Int) l1 (l1.length : Int) 0) else (some ([] : List Int)))) = some r := h
  clear h
  replace H := Option.bind_eq_some_iff.mp H
  obtain ⟨t101, A30, H⟩ := H
  replace H : (if t101 = true then (octet_Put.l0 k a0 ([] : List Int) l1 (l1.length : Int) 0) else (some ([] : List Int))) = some r := H
  have A3 := Aside0.mk A30
  clear A30
  by_cases c4 : t101 = true
  · subst c4
    have H1 : (octet_Put.l0 k a0 ([] : List Int) l1 (l1.length : Int) 0) = some r := by rw [if_pos rfl] at H; exact H
    clear H
    have H := H1
    clear H1
    have H' := Aside0.mk H
    clear H
    go_enter Try.func7, Try.ntmps7
    go_wp2_with (first | ((with_reducible refine gate_callee (f := 10) rfl ?_); refine goesL_ (some 10) rfl rfl Try.func10 (by kernel_rfl) rfl #[.int .i64 a0] rfl (by (try simp only [List.map_toArray, List.map_cons, List.map_nil]); first | done | rfl | (simp only [List.length_drop, List.length_take]; rfl)) ?_; (with_reducible refine (octet_may.calls a0 true _ A3.out).mono ?_); rintro e w' ⟨rfl, ⟨nd, rfl⟩⟩; refine ⟨_, rfl, ?_⟩))
    go_loopg [5, 14] k (fun kq v5 v14 w' => ∃ (x5_1 : List Int) (x14_1 : Int), v14 = .int .i64 x14_1 ∧ Aside0 (octet_Put.l0 kq a0 x5_1 l1 (l1.length : Int) x14_1 = some r) ∧ Aside0 (kq ≤ k) ∧ Aside0 (Kd.R (Kd.int .u8) 5 w' w.heap.size (fun _ => True) v5 x5_1) ∧ Aside0 (Below w.heap.size w w'))
    case atStart => exact ⟨(([] : List Int)), (0), (by first | rfl | (simp; done) | (simp [*]; done)), H', ⟨Nat.le_refl _⟩, ⟨by first | exact Kd.R_nil _ _ _ _ _ | exact Kd.N_nil _ _ _ _ _ | exact Kd.V_nil _ _ _ _ _ | exact Kd.Q_nil _ _ _ _ _ | exact Kd.S_nil _ _ _ _ _⟩, ⟨by repeat (first | (with_reducible first | exact HB.out | apply below_alloc | apply pw_below_drewN | apply below_drew1) | exact HB.out)⟩⟩
    case round =>
      clear H'
      try clear c1
      try clear p2
      try clear c4
      obtain ⟨x5_1, x14_1, rfl, HA, HK1, HO_5, HB⟩ := hrel
      cases gk with
      | zero => exact absurd HA.out (by simp [octet_Put.l0])
      | succ k1 =>
        have H := HA.out
        clear HA
        simp only [octet_Put.l0] at H
        by_cases c5 : x14_1 < (l1.length : Int)
        · rw [if_pos c5] at H
          have c5b0 : decide (x14_1 < (l1.length : Int)) = true := decide_eq_true c5
          clear c5
          by_cases c6 : 0 ≤ x14_1
          · rw [if_pos c6] at H
            have c6b0 : decide (0 ≤ x14_1) = true := decide_eq_true c6
            clear c6
            by_cases c7 : x14_1 < (l1.length : Int)
            · rw [if_pos c7] at H
              have c7b0 : decide (x14_1 < (l1.length : Int)) = true := decide_eq_true c7
              clear c7
              have H' := Aside0.mk H
              clear H
              have p102 : 0 ≤ (x14_1 : Int) := of_decide_eq_true (by first | (with_reducible assumption) | assumption)
              have q102 : x14_1 < (l1.length : Int) := of_decide_eq_true (by first | (with_reducible assumption) | assumption)
              obtain ⟨ad102, e102, hx102_0⟩ := Kd.at_int HR1.out x14_1 p102 q102
              cases e102
              replace hx102_0 := (HB.out.cell (World.block_lt_of_cell? w _ hx102_0)).trans hx102_0
              replace p102 := eq_true p102
              replace q102 := eq_true q102
              go_wp2
              go_loopg [5, 19] k1 (fun kq v5 v19 w' => ∃ (x5_2 : List Int) (x19_2 : Int), v19 = .int .i64 x19_2 ∧ Aside0 (octet_Put.l1 kq a0 x5_2 (rd l1 x14_1) l1 (l1.length : Int) x14_1 a0 x19_2 = some r) ∧ Aside0 (kq ≤ k1) ∧ Aside0 (Kd.R (Kd.int .u8) 5 w' w.heap.size (fun _ => True) v5 x5_2) ∧ Aside0 (Below w.heap.size w w'))
              case atStart => exact ⟨(x5_1), (0), (by first | rfl | (simp; done) | (simp [*]; done)), H', ⟨Nat.le_refl _⟩, ⟨by (with_reducible repeat (first | apply Kd.R_alloc | apply Kd.R_drewN | apply Kd.R_drew)); exact HO_5.out⟩, ⟨by repeat (first | (with_reducible first | exact HB.out | apply below_alloc | apply pw_below_drewN | apply below_drew1) | exact HB.out)⟩⟩
              case round =>
                clear H'
                try clear c1
                try clear p1
                try clear q1
                try clear hx1
                try clear p2
                try clear c4
                try clear c5
                try clear c5b0
                try clear c6
                try clear c6b0
                try clear c7
                try clear c7b0
                try clear hx102_0
                try clear p102
                try clear p2
                try clear q102
                obtain ⟨x5_2, x19_2, rfl, HA, HK2, HO_5, HB⟩ := hrel
                cases gk with
                | zero => exact absurd HA.out (by simp [octet_Put.l1])
                | succ k2 =>
                  have H := HA.out
                  clear HA
                  simp only [octet_Put.l1] at H
                  by_cases c8 : x19_2 < a0
                  · rw [if_pos c8] at H
                    have c8b0 : decide (x19_2 < a0) = true := decide_eq_true c8
                    clear c8
                    obtain ⟨ji9, hji9⟩ : ∃ j_ : Int, (wrap64 (8 * x19_2)) = j_ := ⟨_, rfl⟩
                    replace H : (if 0 ≤ (ji9) then (if x5_2.length < 140737488355328 then (octet_Put.l1 k2 a0 (x5_2 ++ [(shr .u64 (rd l1 x14_1) (ji9)) % 256]) (rd l1 x14_1) l1 (l1.length : Int) x14_1 a0 (wrap64 (x19_2 + 1))) else (none)) else (none)) = some r := by first | (rw [hji9] at H; exact H) | (simp only [hji9] at H ⊢; exact H)
                    have hji9w : (IntKind.i64.wrap (8 * x19_2)) = ji9 := (i64_w _).trans hji9
                    by_cases c10 : 0 ≤ (ji9)
                    · rw [if_pos c10] at H
                      have c10b0 := eq_true c10
                      have c10b1 : decide (0 ≤ (ji9)) = true := decide_eq_true c10
                      clear c10
                      obtain ⟨ji11, hji11⟩ : ∃ j_ : Int, (shr .u64 (rd l1 x14_1) (ji9)) = j_ := ⟨_, rfl⟩
                      replace H : (if x5_2.length < 140737488355328 then (octet_Put.l1 k2 a0 (x5_2 ++ [(ji11) % 256]) (rd l1 x14_1) l1 (l1.length : Int) x14_1 a0 (wrap64 (x19_2 + 1))) else (none)) = some r := by first | (rw [hji11] at H; exact H) | (simp only [hji11] at H ⊢; exact H)
                      have hji11_ : ((rd l1 x14_1) / 2 ^ min (ji9).toNat 64) = ji11 := hji11
                      have hji11z : (ji9) ≤ 64 → ((rd l1 x14_1) / 2 ^ (ji9).toNat) = ji11 := shr_small hji11
                      by_cases c12 : x5_2.length < 140737488355328
                      · rw [if_pos c12] at H
                        have LMc12 := Aside0.mk c12
                        clear c12
                        obtain ⟨y103, hy103⟩ : ∃ y_ : List Int, y_ = (x5_2 ++ [(ji11) % 256]) := ⟨_, rfl⟩
                        replace H : (octet_Put.l1 k2 a0 y103 (rd l1 x14_1) l1 (l1.length : Int) x14_1 a0 (wrap64 (x19_2 + 1))) = some r := by first | (rw [hy103]; with_reducible exact H) | (have H2_ := (Option.bind_some _ _).symm.trans H; rw [hy103]; with_reducible exact H2_) | (have H2_ := (Option.bind_some _ _).symm.trans H; with_reducible exact H2_) | with_reducible exact H | (rw [hy103]; exact H) | exact H
                        have Ny103 := Aside0.mk hy103
                        clear hy103
                        have H' := Aside0.mk H
                        clear H
                        go_wp2_with (first | ((with_reducible refine gate_builtin (b := .append) (xs := #[.tmp 22, .tmp 28]) rfl ?_); at_builtin; refine Kd.R_append (Kd.int .u8) (w0 := w) w.heap.size rfl (.tmp 22) (.tmp 28) 24 5 (.int .u8 0) 1 rfl Try.underlying24 info5 rfl (by decide) (by omega) u5 x5_2 ((ji11) % 256) [.int .u8 ((ji11) % 256)] (fun _ => True) (fun _ => False) rfl rfl ?aP (fun _ hk => hk.elim) ?aF ?aO ?aB ?aS ?aL ?_; (case aP => exact rfl); (case aB => exact (by repeat (first | (with_reducible first | exact HB.out | apply below_alloc | apply pw_below_drewN | apply below_drew1) | exact HB.out))); (case aF => exact (fun _ _ => trivial)); (case aO => exact (by (with_reducible repeat (first | apply Kd.R_alloc | apply Kd.R_drewN | apply Kd.R_drew)); exact HO_5.out)); (case aS => exact (below_size (by repeat (first | (with_reducible first | exact HB.out | apply below_alloc | apply pw_below_drewN | apply below_drew1) | exact HB.out)))); (case aL => have := LMc12.out; omega); intro v104 w13 ho hb hg hat; rw [← Ny103.out] at ho; have n0_ := Aside0.mk (hb); have n1_ := Aside0.mk (ho); clear HB; clear HO_5; have HB := n0_; have HO105 := n1_; clear n0_ n1_; clear ho hb hg hat))
                        go_roundg k2
                        case measure => have := HK1.out; have := HK2.out; omega
                        case rel => exact ⟨(y103), (wrap64 (x19_2 + 1)), (by first | rfl | (simp; done) | (simp [*]; done)), H', ⟨by have := HK1.out; have := HK2.out; omega⟩, ⟨by (with_reducible repeat (first | apply Kd.R_alloc | apply Kd.R_drewN | apply Kd.R_drew)); exact HO105.out⟩, ⟨by repeat (first | (with_reducible first | exact HB.out | apply below_alloc | apply pw_below_drewN | apply below_drew1) | exact HB.out)⟩⟩
                      · rw [if_neg c12] at H
                        exact absurd H (by simp)
                    · rw [if_neg c10] at H
                      exact absurd H (by simp)
                  · rw [if_neg c8] at H
                    have c8b0 : decide (x19_2 < a0) = false := decide_eq_false c8
                    clear c8
                    have H' := Aside0.mk H
                    clear H
                    go_wp2
                    go_roundg k2
                    case measure => have := HK1.out; have := HK2.out; omega
                    case rel => exact ⟨(x5_2), (wrap64 (x14_1 + 1)), (by first | rfl | (simp; done) | (simp [*]; done)), H', ⟨by have := HK1.out; have := HK2.out; omega⟩, ⟨by (with_reducible repeat (first | apply Kd.R_alloc | apply Kd.R_drewN | apply Kd.R_drew)); exact HO_5.out⟩, ⟨by repeat (first | (with_reducible first | exact HB.out | apply below_alloc | apply pw_below_drewN | apply below_drew1) | exact HB.out)⟩⟩
            · rw [if_neg c7] at H
              exact absurd H (by simp)
          · rw [if_neg c6] at H
            exact absurd H (by simp)
        · rw [if_neg c5] at H
          have c5b0 : decide (x14_1 < (l1.length : Int)) = false := decide_eq_false c5
          clear c5
          obtain rfl := Option.some.inj H
          go_wp2
          go_ret
          exact ⟨_, by first | rfl | (simp [errW_none, errW_some] <;> rfl) | (simp [*, errW_none, errW_some] <;> rfl), by (with_reducible repeat (first | apply Kd.R_alloc | apply Kd.R_drewN | apply Kd.R_drew)); exact HO_5.out, by repeat (first | (with_reducible first | exact HB.out | apply below_alloc | apply pw_below_drewN | apply below_drew1) | exact HB.out)⟩
  · replace c4 := Bool.eq_false_iff.mpr c4
    subst c4
    have H1 : (some ([] : List Int)) = some r := by rw [if_neg (show ¬ (false = true) by decide)] at H; exact H
    clear H
    have H := H1
    clear H1
    obtain rfl := Option.some.inj H
    go_enter Try.func7, Try.ntmps7
    go_wp2_with (first | ((with_reducible refine gate_callee (f := 10) rfl ?_); refine goesL_ (some 10) rfl rfl Try.func10 (by kernel_rfl) rfl #[.int .i64 a0] rfl (by (try simp only [List.map_toArray, List.map_cons, List.map_nil]); first | done | rfl | (simp only [List.length_drop, List.length_take]; rfl)) ?_; (with_reducible refine (octet_may.calls a0 false _ A3.out).mono ?_); rintro e w' ⟨rfl, ⟨nd, rfl⟩⟩; refine ⟨_, rfl, ?_⟩))
    go_ret
    exact ⟨_, by first | rfl | (simp [errW_none, errW_some] <;> rfl) | (simp [*, errW_none, errW_some] <;> rfl), by first | exact Kd.R_nil _ _ _ _ _ | exact Kd.N_nil _ _ _ _ _ | exact Kd.V_nil _ _ _ _ _ | exact Kd.Q_nil _ _ _ _ _ | exact Kd.S_nil _ _ _ _ _, by repeat (first | (with_reducible first | exact HB.out | apply below_alloc | apply pw_below_drewN | apply below_drew1) | exact HB.out)⟩
end Go.Proofs.Ytdmefmeeckjcpaa.PAll
end
section
namespace Go.Proofs.Ytdmefmeeckjcpaa.PAll
open Go.RowKit Go.Proofs.YtdmefmeeckjcpaaW.PrintWords Go.Proofs.YtdmefmeeckjcpaaW.PrintLast Go.Proofs.YtdmefmeeckjcpaaW.PrintMore
attribute [local go_sem] max2_int min2_int max_two min_two max_three min_three max_four min_four
set_option linter.unusedVariables false
set_option linter.unusedSimpArgs false
def octet_Join.l0 : Nat → List Int → List (List Int) → Int → Int → Option (List Int)
  | 0, _, _, _, _ => none
  | k + 1, x3, x6, x7, x8 => if x8 < x7 then (if 0 ≤ x8 then (if x8 < (x6.length : Int) then (if 0 ≤ (mn ((rd_L2 x6 x8).length : Int) 65535) then (if (mn ((rd_L2 x6 x8).length : Int) 65535) ≤ ((rd_L2 x6 x8).length : Int) then ((octet_Put.f k 2 (([IntKind.u64.wrap ((((rd_L2 x6 x8).take ((mn ((rd_L2 x6 x8).length : Int) 65535) : Int).toNat).length : Int))] : List Int))).bind fun t111 => (if x3.length + t111.length < 140737488355328 then ((some (x3 ++ t111 : List Int)).bind fun y114 => (if y114.length + ((rd_L2 x6 x8).take ((mn ((rd_L2 x6 x8).length : Int) 65535) : Int).toNat).length < 140737488355328 then (octet_Join.l0 k (y114 ++ ((rd_L2 x6 x8).take ((mn ((rd_L2 x6 x8).length : Int) 65535) : Int).toNat)) x6 x7 (wrap64 (x8 + 1))) else (none))) else (none))) else (none)) else (none)) else (none)) else (none)) else (some x3)
def octet_Join.f (k : Nat) (l0 : List (List Int)) : Option (List Int) := octet_Join.l0 k ([] : List Int) l0 (l0.length : Int) 0
set_option maxHeartbeats 8000000 in
set_option maxRecDepth 100000 in
theorem octet_Join.calls (k : Nat) (A0 : Option Addr) (c0 : Nat) (l0 : List (List Int)) (r : List Int) (w : World) (hr0 : Kd.C (Kd.slice 5 (Kd.int .u8)) w A0 l0.length l0) (hc0 : l0.length ≤ c0) (h : octet_Join.f k l0 = some r) :
    Calls Try.prog 5 #[.slice A0 l0.length c0] w fun e w' => ∃ v0_ : Value, e = .returned (v0_) ∧ Kd.R (Kd.int .u8) 5 w' w.heap.size (fun _ => True) v0_ r ∧ Below w.heap.size w w' := by
  have HR0 := Aside0.mk hr0
  have HC0 := Aside0.mk hc0
  clear hr0 hc0
  have HB := Aside0.mk (Below.refl w.heap.size w)
  have H : (octet_Join.l0 k ([] : List Int) l0 (l0.length : Int) 0) = some r := h
  clear h
  have H' := Aside0.mk H
  clear H
  go_enter Try.func5, Try.ntmps5
  go_wp2
  go_loopg [3, 8] k (fun kq v3 v8 w' => ∃ (x3_1 : List Int) (x8_1 : Int), v8 = .int .i64 x8_1 ∧ Aside0 (octet_Join.l0 kq x3_1 l0 (l0.length : Int) x8_1 = some r) ∧ Aside0 (kq ≤ k) ∧ Aside0 (Kd.R (Kd.int .u8) 5 w' w.heap.size (fun _ => True) v3 x3_1) ∧ Aside0 (Below w.heap.size w w'))
  case atStart => exact ⟨(([] : List Int)), (0), (by first | rfl | (simp; done) | (simp [*]; done)), H', ⟨Nat.le_refl _⟩, ⟨by first | exact Kd.R_nil _ _ _ _ _ | exact Kd.N_nil _ _ _ _ _ | exact Kd.V_nil _ _ _ _ _ | exact Kd.Q_nil _ _ _ _ _ | exact Kd.S_nil _ _ _ _ _⟩, ⟨by repeat (first | (with_reducible first | exact HB.out | apply below_alloc | apply pw_below_drewN | apply below_drew1) | exact HB.out)⟩⟩
  case round =>
    clear H'
    obtain ⟨x3_1, x8_1, rfl, HA, HK1, HO_3, HB⟩ := hrel
    cases gk with
    | zero => exact absurd HA.out (by simp [octet_Join.l0])
    | succ k1 =>
      have H := HA.out
      clear HA
      simp only [octet_Join.l0] at H
      by_cases c2 : x8_1 < (l0.length : Int)
      · rw [if_pos c2] at H
        have c2b0 : decide (x8_1 < (l0.length : Int)) = true := decide_eq_true c2
        clear c2
        by_cases c3 : 0 ≤ x8_1
        · rw [if_pos c3] at H
          have c3b0 : decide (0 ≤ x8_1) = true := decide_eq_true c3
          clear c3
          by_cases c4 : x8_1 < (l0.length : Int)
          · rw [if_pos c4] at H
            have c4b0 : decide (x8_1 < (l0.length : Int)) = true := decide_eq_true c4
            clear c4
            obtain ⟨ji5, hji5⟩ : ∃ j_ : Int, (mn ((rd_L2 l0 x8_1).length : Int) 65535) = j_ := ⟨_, rfl⟩
            replace H : (if 0 ≤ (ji5) then (if (ji5) ≤ ((rd_L2 l0 x8_1).length : Int) then ((octet_Put.f k1 2 (([IntKind.u64.wrap ((((rd_L2 l0 x8_1).take ((ji5) : Int).toNat).length : Int))] : List Int))).bind fun t111 => (if x3_1.length + t111.length < 140737488355328 then ((some (x3_1 ++ t111 : List Int)).bind fun y114 => (if y114.length + ((rd_L2 l0 x8_1).take ((ji5) : Int).toNat).length < 140737488355328 then (octet_Join.l0 k1 (y114 ++ ((rd_L2 l0 x8_1).take ((ji5) : Int).toNat)) l0 (l0.length : Int) (wrap64 (x8_1 + 1))) else (none))) else (none))) else (none)) else (none)) = some r := by first | (rw [hji5] at H; exact H) | (simp only [hji5] at H ⊢; exact H)
            have hji5_ : (if 65535 < ((rd_L2 l0 x8_1).length : Int) then 65535 else ((rd_L2 l0 x8_1).length : Int)) = ji5 := hji5
            by_cases c6 : 0 ≤ (ji5)
            · rw [if_pos c6] at H
              have c6b0 := eq_true c6
              have c6b1 : decide (0 ≤ (ji5)) = true := decide_eq_true c6
              clear c6
              by_cases c7 : (ji5) ≤ ((rd_L2 l0 x8_1).length : Int)
              · rw [if_pos c7] at H
                have c7b0 := eq_true c7
                have c7b1 : decide ((ji5) ≤ ((rd_L2 l0 x8_1).length : Int)) = true := decide_eq_true c7
                clear c7
                obtain ⟨y108, hy108⟩ : ∃ y_ : List Int, y_ = (([IntKind.u64.wrap ((((rd_L2 l0 x8_1).take ((ji5) : Int).toNat).length : Int))] : List Int)) := ⟨_, rfl⟩
                replace H : ((octet_Put.f k1 2 y108).bind fun t111 => (if x3_1.length + t111.length < 140737488355328 then ((some (x3_1 ++ t111 : List Int)).bind fun y114 => (if y114.length + ((rd_L2 l0 x8_1).take ((ji5) : Int).toNat).length < 140737488355328 then (octet_Join.l0 k1 (y114 ++ ((rd_L2 l0 x8_1).take ((ji5) : Int).toNat)) l0 (l0.length : Int) (wrap64 (x8_1 + 1))) else (none))) else (none))) = some r := by first | (rw [hy108]; with_reducible exact H) | (have H2_ := (Option.bind_some _ _).symm.trans H; rw [hy108]; with_reducible exact H2_) | (have H2_ := (Option.bind_some _ _).symm.trans H; with_reducible exact H2_) | with_reducible exact H | (rw [hy108]; exact H) | exact H
                have Ny108 : Aside0 (y108 = ([max ji5 0] : List Int)) := ⟨hy108.trans (by have e_ : 0 ≤ ji5 := (by first | exact of_eq_true c6b0 | omega); have e2_ : ji5 ≤ ((rd_L2 l0 x8_1).length : Int) := (by first | exact of_eq_true c7b0 | omega); have e3_ : ji5 ≤ 65535 := (by have q_ := hji5_; split at q_ <;> omega); rw [List.length_take, show IntKind.u64.wrap ((min ji5.toNat (rd_L2 l0 x8_1).length : Nat) : Int) = max ji5 0 from by (simp only [IntKind.wrap, IntKind.signed, IntKind.bits]; first | omega | (simp; omega))])⟩
                clear hy108
                replace H := Option.bind_eq_some_iff.mp H
                obtain ⟨t111, A80, H⟩ := H
                replace H : (if x3_1.length + t111.length < 140737488355328 then ((some (x3_1 ++ t111 : List Int)).bind fun y114 => (if y114.length + ((rd_L2 l0 x8_1).take ((ji5) : Int).toNat).length < 140737488355328 then (octet_Join.l0 k1 (y114 ++ ((rd_L2 l0 x8_1).take ((ji5) : Int).toNat)) l0 (l0.length : Int) (wrap64 (x8_1 + 1))) else (none))) else (none)) = some r := H
                have A8 := Aside0.mk A80
                clear A80
                by_cases c9 : x3_1.length + t111.length < 140737488355328
                · rw [if_pos c9] at H
                  have LMc9 := Aside0.mk c9
                  clear c9
                  obtain ⟨y114, hy114⟩ : ∃ y_ : List Int, y_ = (x3_1 ++ t111) := ⟨_, rfl⟩
                  replace H : (if y114.length + ((rd_L2 l0 x8_1).take ((ji5) : Int).toNat).length < 140737488355328 then (octet_Join.l0 k1 (y114 ++ ((rd_L2 l0 x8_1).take ((ji5) : Int).toNat)) l0 (l0.length : Int) (wrap64 (x8_1 + 1))) else (none)) = some r := by first | (rw [hy114]; with_reducible exact H) | (have H2_ := (Option.bind_some _ _).symm.trans H; rw [hy114]; with_reducible exact H2_) | (have H2_ := (Option.bind_some _ _).symm.trans H; with_reducible exact H2_) | with_reducible exact H | (rw [hy114]; exact H) | exact H
                  have Ny114 := Aside0.mk hy114
                  clear hy114
                  by_cases c10 : y114.length + ((rd_L2 l0 x8_1).take ((ji5) : Int).toNat).length < 140737488355328
                  · rw [if_pos c10] at H
                    have LMc10 := Aside0.mk c10
                    clear c10
                    obtain ⟨y117, hy117⟩ : ∃ y_ : List Int, y_ = (y114 ++ ((rd_L2 l0 x8_1).take ((ji5) : Int).toNat)) := ⟨_, rfl⟩
                    replace H : (octet_Join.l0 k1 y117 l0 (l0.length : Int) (wrap64 (x8_1 + 1))) = some r := by first | (rw [hy117]; with_reducible exact H) | (have H2_ := (Option.bind_some _ _).symm.trans H; rw [hy117]; with_reducible exact H2_) | (have H2_ := (Option.bind_some _ _).symm.trans H; with_reducible exact H2_) | with_reducible exact H | (rw [hy117]; exact H) | exact H
                    have Ny117 := Aside0.mk hy117
                    clear hy117
                    have H' := Aside0.mk H
                    clear H
                    have p106 : 0 ≤ (x8_1 : Int) := of_decide_eq_true (by first | (with_reducible assumption) | assumption)
                    have q106 : x8_1 < (l0.length : Int) := of_decide_eq_true (by first | (with_reducible assumption) | assumption)
                    obtain ⟨ad106, A106_0, c106_0, e106, hx106_0, hl106_0, hi106_0⟩ := at_L2 HR0.out x8_1 p106 q106
                    cases e106
                    replace hx106_0 := (HB.out.cell (World.block_lt_of_cell? w _ hx106_0)).trans hx106_0
                    have HR106_0 := Aside0.mk hi106_0
                    have HC106_0 := Aside0.mk hl106_0
                    clear hi106_0 hl106_0
                    replace p106 := eq_true p106
                    replace q106 := eq_true q106
                    obtain ⟨i011, hi011, _, hsz11, _⟩ := info_parts info5
                    obtain ⟨hcut11, hA11, hC11⟩ := print_take_of (P := Try.prog) (Value.int .u8) 0 24 5 .i64 Try.underlying24 hi011 hsz11 A106_0 c106_0 (rd_L2 l0 x8_1) (ji5) (of_decide_eq_true (by first | (with_reducible assumption) | assumption)) (of_decide_eq_true (by first | (with_reducible assumption) | assumption)) HC106_0.out
                    have HR107 := Aside0.mk (Kd.C_of_reads (h1 := fun _ => rfl) (hA11 _ (Kd.reads_of_C HR106_0.out)))
                    have HC107 := Aside0.mk hC11
                    clear hA11 hC11 hi011 hsz11
                    go_wp2_with (first | ((with_reducible refine gate_dst (N := 21) rfl ?_); refine Kd.R_lit (Kd.int .u64) _ 31 ?hg (N := 21) ?hd (xs := ([max ji5 0] : List Int)) (inner := [.int .u64 (max ji5 0)]) (ok := fun _ => True) (okp := fun _ => True) ?hr ?hp (fun _ hk => hk) trivial (Below.refl _ _) (Nat.le_refl _) (by simp) ?_; (case hd => rfl); (case hg => rfl); (case hr => first | (go_simp; done) | (go_simp; rfl)); (case hp => exact (Reps.one (show Kd.M (Kd.int .u64) _ _ _ (max ji5 0) [.int .u64 (max ji5 0)] from rfl) (Reps.none _ _))); intro v109 w12 ho13 hb hg_ hnew_; clear hg_ hnew_; (first | rw [← Ny108.out] at ho13 | (simp only [Int.reduceToNat] at ho13; rw [← Ny108.out] at ho13)); have n0_ := Aside0.mk (Kd.R_below (by (with_reducible repeat (first | apply Kd.R_alloc | apply Kd.R_drewN | apply Kd.R_drew)); exact HO_3.out) hb); have n1_ := Aside0.mk (Kd.R_lower ho13 (below_size (by repeat (first | (with_reducible first | exact HB.out | apply below_alloc | apply pw_below_drewN | apply below_drew1) | exact HB.out)))); have n2_ := Aside0.mk (below_step (by repeat (first | (with_reducible first | exact HB.out | apply below_alloc | apply pw_below_drewN | apply below_drew1) | exact HB.out)) hb); clear HO_3; clear HB; have HO_3 := n0_; have HO110 := n1_; have HB := n2_; clear n0_ n1_ n2_; clear hb ho13; obtain ⟨Ao14, co14, eo14⟩ := Kd.R_slice HO110.out; subst eo14) | ((with_reducible refine gate_callee (f := 7) rfl ?_); refine goesL_ (some 22) rfl rfl Try.func7 (by kernel_rfl) rfl #[.int .i64 2, .slice Ao14 y108.length co14] rfl (by (try simp only [List.map_toArray, List.map_cons, List.map_nil]); first | done | rfl | (simp only [List.length_drop, List.length_take]; rfl)) ?_; (with_reducible refine (octet_Put.calls k1 2 _ _ y108 t111 _ ?side1 ?side2 A8.out).mono ?_); (case side1 => repeat (first | exact (Kd.R_reads' HO110.out).2.2 | (with_reducible refine Kd.C_alloc ?_ _) | (with_reducible refine Kd.C_drewN ?_ _) | (with_reducible refine Kd.C_drew ?_))); (case side2 => exact (Kd.R_reads' HO110.out).2.1); rintro e w15 ⟨v112, rfl, ho0, hb⟩; refine ⟨_, rfl, ?_⟩; have n0_ := Aside0.mk (Kd.R_elder' (by (with_reducible repeat (first | apply Kd.R_alloc | apply Kd.R_drewN | apply Kd.R_drew)); exact HO_3.out) (Kd.R_base ho0) hb); have n1_ := Aside0.mk (Kd.R_below (by (with_reducible repeat (first | apply Kd.R_alloc | apply Kd.R_drewN | apply Kd.R_drew)); exact HO110.out) hb); have n2_ := Aside0.mk (Kd.R_lower (Kd.R_new' ho0 (Kd.R_lt (by (with_reducible repeat (first | apply Kd.R_alloc | apply Kd.R_drewN | apply Kd.R_drew)); exact HO_3.out))) (below_size (by repeat (first | (with_reducible first | exact HB.out | apply below_alloc | apply pw_below_drewN | apply below_drew1) | exact HB.out)))); have n3_ := Aside0.mk (below_step (by repeat (first | (with_reducible first | exact HB.out | apply below_alloc | apply pw_below_drewN | apply below_drew1) | exact HB.out)) hb); clear HO_3; clear HO110; clear HB; have HO_3 := n0_; have HO110 := n1_; have HO113 := n2_; have HB := n3_; clear n0_ n1_ n2_ n3_; (try clear hb); (try clear hb2); (try clear hk); (try clear hi); (try clear ho0); obtain ⟨Ao17, co17, eo17⟩ := Kd.R_slice HO113.out; subst eo17) | ((with_reducible refine gate_builtin (b := .append) (xs := #[.tmp 17, .tmp 22]) rfl ?_); at_builtin; refine Kd.R_append_rows (Kd.int .u8) (w0 := w) w.heap.size rfl (.tmp 17) (.tmp 22) 24 5 (.int .u8 0) 1 rfl Try.underlying24 info5 rfl (by decide) (by omega) u3 x3_1 t111 _ _ _ (fun k_ => some k_ ≠ (.slice Ao17 t111.length co17 : Value).ownBlock) (fun _ => False) rfl rfl ?aO ?aR (fun _ _ h => h) (fun _ h => h.elim) ?aF ?aB ?aS ?aL ?_; (case aR => repeat (first | exact (Kd.R_reads' HO113.out).2.2 | (with_reducible refine Kd.C_alloc ?_ _) | (with_reducible refine Kd.C_drewN ?_ _) | (with_reducible refine Kd.C_drew ?_))); (case aB => exact (by repeat (first | (with_reducible first | exact HB.out | apply below_alloc | apply pw_below_drewN | apply below_drew1) | exact HB.out))); (case aF => exact (fun k_ hk => Kd.fresh' (Kd.R_lt (by (with_reducible repeat (first | apply Kd.R_alloc | apply Kd.R_drewN | apply Kd.R_drew)); exact HO113.out)) k_ hk)); (case aO => exact (by (with_reducible repeat (first | apply Kd.R_alloc | apply Kd.R_drewN | apply Kd.R_drew)); exact Kd.R_mono HO_3.out (fun _ hk => hk.2))); (case aS => exact (below_size (by repeat (first | (with_reducible first | exact HB.out | apply below_alloc | apply pw_below_drewN | apply below_drew1) | exact HB.out)))); (case aL => have := LMc9.out; omega); intro v115 w16 ho hb hg hat; rw [← Ny114.out] at ho; have n0_ := Aside0.mk (Kd.R_over' (by (with_reducible repeat (first | apply Kd.R_alloc | apply Kd.R_drewN | apply Kd.R_drew)); exact HO110.out) (Kd.R_typed (by (with_reducible repeat (first | apply Kd.R_alloc | apply Kd.R_drewN | apply Kd.R_drew)); exact HO_3.out)) (by decide) hg); have n1_ := Aside0.mk (Kd.R_after (ok := (fun _ => True)) (by (with_reducible repeat (first | apply Kd.R_alloc | apply Kd.R_drewN | apply Kd.R_drew)); exact HO113.out) hg hat); have n2_ := Aside0.mk (hb); have n3_ := Aside0.mk (ho); clear HO110; clear HO113; clear HB; clear HO_3; have HO110 := n0_; have HO113 := n1_; have HB := n2_; have HO116 := n3_; clear n0_ n1_ n2_ n3_; clear ho hb hg hat) | ((with_reducible refine gate_builtin (b := .append) (xs := #[.tmp 24, .tmp 25]) rfl ?_); at_builtin; refine Kd.R_append_rows (Kd.int .u8) (w0 := w) w.heap.size rfl (.tmp 24) (.tmp 25) 24 5 (.int .u8 0) 1 rfl Try.underlying24 info5 rfl (by decide) (by omega) v115 y114 ((rd_L2 l0 x8_1).take ((ji5) : Int).toNat) _ _ _ (fun k_ => some k_ ≠ (.slice Ao17 t111.length co17 : Value).ownBlock) (fun _ => False) rfl rfl ?aO ?aR (fun _ _ h => h) (fun _ h => h.elim) ?aF ?aB ?aS ?aL ?_; (case aR => first | (have hq_ := (Kd.C_below HR107.out HB.out); rw [show ((rd_L2 l0 x8_1).take ((ji5) : Int).toNat).length = (ji5).toNat from (by rw [List.length_take]; have h_ : ((ji5) : Int) ≤ ((rd_L2 l0 x8_1).length : Int) := of_decide_eq_true (by first | (with_reducible assumption) | assumption); omega)] at hq_; exact hq_) | (rw [← show ((rd_L2 l0 x8_1).take ((ji5) : Int).toNat).length = (ji5).toNat from (by rw [List.length_take]; have h_ : ((ji5) : Int) ≤ ((rd_L2 l0 x8_1).length : Int) := of_decide_eq_true (by first | (with_reducible assumption) | assumption); omega)]; repeat (first | exact (Kd.C_below HR107.out HB.out) | (with_reducible refine Kd.C_alloc ?_ _) | (with_reducible refine Kd.C_drewN ?_ _) | (with_reducible refine Kd.C_drew ?_))) | (repeat (first | exact (Kd.C_below HR107.out HB.out) | (with_reducible refine Kd.C_alloc ?_ _) | (with_reducible refine Kd.C_drewN ?_ _) | (with_reducible refine Kd.C_drew ?_)))); (case aB => exact (by repeat (first | (with_reducible first | exact HB.out | apply below_alloc | apply pw_below_drewN | apply below_drew1) | exact HB.out))); (case aF => exact (fun k_ hk => Kd.fresh' (Kd.R_lt (by (with_reducible repeat (first | apply Kd.R_alloc | apply Kd.R_drewN | apply Kd.R_drew)); exact HO113.out)) k_ hk)); (case aO => exact (by (with_reducible repeat (first | apply Kd.R_alloc | apply Kd.R_drewN | apply Kd.R_drew)); exact HO116.out)); (case aS => exact (below_size (by repeat (first | (with_reducible first | exact HB.out | apply below_alloc | apply pw_below_drewN | apply below_drew1) | exact HB.out)))); (case aL => have := LMc10.out; have hlx_ := (show ((rd_L2 l0 x8_1).take ((ji5) : Int).toNat).length = (ji5).toNat from (by rw [List.length_take]; have h_ : ((ji5) : Int) ≤ ((rd_L2 l0 x8_1).length : Int) := of_decide_eq_true (by first | (with_reducible assumption) | assumption); omega)); omega); intro v118 w18 ho hb hg hat; rw [← Ny117.out] at ho; have n0_ := Aside0.mk (Kd.R_over' (by (with_reducible repeat (first | apply Kd.R_alloc | apply Kd.R_drewN | apply Kd.R_drew)); exact HO110.out) (Kd.R_typed (by (with_reducible repeat (first | apply Kd.R_alloc | apply Kd.R_drewN | apply Kd.R_drew)); exact HO116.out)) (by decide) hg); have n1_ := Aside0.mk (Kd.R_after (ok := (fun _ => True)) (by (with_reducible repeat (first | apply Kd.R_alloc | apply Kd.R_drewN | apply Kd.R_drew)); exact HO113.out) hg hat); have n2_ := Aside0.mk (hb); have n3_ := Aside0.mk (ho); clear HO110; clear HO113; clear HB; clear HO116; have HO110 := n0_; have HO113 := n1_; have HB := n2_; have HO119 := n3_; clear n0_ n1_ n2_ n3_; clear ho hb hg hat))
                    go_roundg k1
                    case measure => have := HK1.out; omega
                    case rel => exact ⟨(y117), (wrap64 (x8_1 + 1)), (by first | rfl | (simp; done) | (simp [*]; done)), H', ⟨by have := HK1.out; omega⟩, ⟨by (with_reducible repeat (first | apply Kd.R_alloc | apply Kd.R_drewN | apply Kd.R_drew)); exact Kd.R_mono HO119.out (fun _ hk => trivial)⟩, ⟨by repeat (first | (with_reducible first | exact HB.out | apply below_alloc | apply pw_below_drewN | apply below_drew1) | exact HB.out)⟩⟩
                  · rw [if_neg c10] at H
                    exact absurd H (by simp)
                · rw [if_neg c9] at H
                  exact absurd H (by simp)
              · rw [if_neg c7] at H
                exact absurd H (by simp)
            · rw [if_neg c6] at H
              exact absurd H (by simp)
          · rw [if_neg c4] at H
            exact absurd H (by simp)
        · rw [if_neg c3] at H
          exact absurd H (by simp)
      · rw [if_neg c2] at H
        have c2b0 : decide (x8_1 < (l0.length : Int)) = false := decide_eq_false c2
        clear c2
        obtain rfl := Option.some.inj H
        go_wp2
        go_ret
        exact ⟨_, by first | rfl | (simp [errW_none, errW_some] <;> rfl) | (simp [*, errW_none, errW_some] <;> rfl), by (with_reducible repeat (first | apply Kd.R_alloc | apply Kd.R_drewN | apply Kd.R_drew)); exact HO_3.out, by repeat (first | (with_reducible first | exact HB.out | apply below_alloc | apply pw_below_drewN | apply below_drew1) | exact HB.out)⟩
end Go.Proofs.Ytdmefmeeckjcpaa.PAll
end
section
namespace Go.Proofs.Ytdmefmeeckjcpaa.PAll
open Go.RowKit Go.Proofs.YtdmefmeeckjcpaaW.PrintWords Go.Proofs.YtdmefmeeckjcpaaW.PrintLast Go.Proofs.YtdmefmeeckjcpaaW.PrintMore
attribute [local go_sem] max2_int min2_int max_two min_two max_three min_three max_four min_four
set_option linter.unusedVariables false
set_option linter.unusedSimpArgs false
def slices_Clone_byte_byte.f (l0 : List Int) : Option (List Int) := (some (([] : List Int) : List Int)).bind fun y120 => (if y120.length + l0.length < 140737488355328 then (some (y120 ++ l0)) else (none))
set_option maxHeartbeats 8000000 in
set_option maxRecDepth 100000 in
theorem slices_Clone_byte_byte.calls (A0 : Option Addr) (c0 : Nat) (l0 : List Int) (r : List Int) (w : World) (hr0 : Kd.C (Kd.int .u8) w A0 l0.length l0) (hc0 : l0.length ≤ c0) (h : slices_Clone_byte_byte.f l0 = some r) :
    Calls Try.prog 9 #[.slice A0 l0.length c0] w fun e w' => ∃ v0_ : Value, e = .returned (v0_) ∧ Kd.R (Kd.int .u8) 5 w' w.heap.size (fun _ => True) v0_ r ∧ Below w.heap.size w w' := by
  rcases A0 with _ | ad0
  · have hl0 : l0 = [] := by
      rcases Nat.eq_zero_or_pos l0.length with e0 | e0
      · exact List.eq_nil_of_length_eq_zero e0
      · obtain ⟨ad, he, _⟩ := hr0.2.2 e0; cases he
    subst hl0
    obtain rfl : r = [] := by simpa [slices_Clone_byte_byte.f] using h.symm
    have hq := Go.Lib.run_eql_slice_nil_nil (P := Try.prog) w (n := 0) (c := c0) Try.underlying24
    clear hr0 hc0 h
    go_enter Try.func9, Try.ntmps9
    go_wp2
    go_ret
    exact ⟨_, rfl, Kd.R_nil _ _ _ _ _, Below.refl _ _⟩
  have hq0 := fun W_ : World => Go.Lib.run_eql_slice_some_nil (P := Try.prog) W_ ad0 l0.length c0 Try.underlying24
  have HR0 := Aside0.mk hr0
  have HC0 := Aside0.mk hc0
  clear hr0 hc0
  have HB := Aside0.mk (Below.refl w.heap.size w)
  have H : ((some (([] : List Int) : List Int)).bind fun y120 => (if y120.length + l0.length < 140737488355328 then (some (y120 ++ l0)) else (none))) = some r := h
  clear h
  obtain ⟨y120, hy120⟩ : ∃ y_ : List Int, y_ = (([] : List Int)) := ⟨_, rfl⟩
  replace H : (if y120.length + l0.length < 140737488355328 then (some (y120 ++ l0)) else (none)) = some r := by first | (rw [hy120]; with_reducible exact H) | (have H2_ := (Option.bind_some _ _).symm.trans H; rw [hy120]; with_reducible exact H2_) | (have H2_ := (Option.bind_some _ _).symm.trans H; with_reducible exact H2_) | with_reducible exact H | (rw [hy120]; exact H) | exact H
  have Ny120 := Aside0.mk hy120
  clear hy120
  by_cases c2 : y120.length + l0.length < 140737488355328
  · rw [if_pos c2] at H
    have LMc2 := Aside0.mk c2
    clear c2
    obtain ⟨y123, hy123⟩ : ∃ y_ : List Int, y_ = (y120 ++ l0) := ⟨_, rfl⟩
    replace H : (some y123) = some r := by first | (rw [hy123]; with_reducible exact H) | (have H2_ := (Option.bind_some _ _).symm.trans H; rw [hy123]; with_reducible exact H2_) | (have H2_ := (Option.bind_some _ _).symm.trans H; with_reducible exact H2_) | with_reducible exact H | (rw [hy123]; exact H) | exact H
    have Ny123 := Aside0.mk hy123
    clear hy123
    obtain rfl := Option.some.inj H
    go_enter Try.func9, Try.ntmps9
    go_wp2_with (first | ((with_reducible refine gate_dst (N := 5) rfl ?_); refine Kd.R_lit (Kd.int .u8) _ 5 ?hg (N := 5) ?hd (xs := ([] : List Int)) (inner := []) (ok := fun _ => True) (okp := fun _ => True) ?hr ?hp (fun _ hk => hk) trivial (Below.refl _ _) (Nat.le_refl _) (by simp) ?_; (case hd => rfl); (case hg => rfl); (case hr => first | (go_simp; done) | (go_simp; rfl)); (case hp => exact (Reps.none _ _)); intro v121 w3 ho4 hb hg_ hnew_; clear hg_ hnew_; (first | rw [← Ny120.out] at ho4 | (simp only [Int.reduceToNat] at ho4; rw [← Ny120.out] at ho4)); have n0_ := Aside0.mk (Kd.R_lower ho4 (below_size (by repeat (first | (with_reducible first | exact HB.out | apply below_alloc | apply pw_below_drewN | apply below_drew1) | exact HB.out)))); have n1_ := Aside0.mk (below_step (by repeat (first | (with_reducible first | exact HB.out | apply below_alloc | apply pw_below_drewN | apply below_drew1) | exact HB.out)) hb); clear HB; have HO122 := n0_; have HB := n1_; clear n0_ n1_; clear hb ho4) | ((with_reducible refine gate_builtin (b := .append) (xs := #[.tmp 5, .tmp 6]) rfl ?_); at_builtin; refine Kd.R_append_rows (Kd.int .u8) (w0 := w) w.heap.size rfl (.tmp 5) (.tmp 6) 24 5 (.int .u8 0) 1 rfl Try.underlying24 info5 rfl (by decide) (by omega) v121 y120 l0 _ _ _ (fun _ => True) (fun _ => False) rfl rfl ?aO ?aR (fun _ _ h => h) (fun _ h => h.elim) ?aF ?aB ?aS ?aL ?_; (case aR => repeat (first | exact (Kd.C_below HR0.out HB.out) | (with_reducible refine Kd.C_alloc ?_ _) | (with_reducible refine Kd.C_drewN ?_ _) | (with_reducible refine Kd.C_drew ?_))); (case aB => exact (by repeat (first | (with_reducible first | exact HB.out | apply below_alloc | apply pw_below_drewN | apply below_drew1) | exact HB.out))); (case aF => exact (fun _ _ => trivial)); (case aO => exact (by (with_reducible repeat (first | apply Kd.R_alloc | apply Kd.R_drewN | apply Kd.R_drew)); exact HO122.out)); (case aS => exact (below_size (by repeat (first | (with_reducible first | exact HB.out | apply below_alloc | apply pw_below_drewN | apply below_drew1) | exact HB.out)))); (case aL => have := LMc2.out; omega); intro v124 w5 ho hb hg hat; rw [← Ny123.out] at ho; have n0_ := Aside0.mk (hb); have n1_ := Aside0.mk (ho); clear HB; clear HO122; have HB := n0_; have HO125 := n1_; clear n0_ n1_; clear ho hb hg hat))
    go_ret
    exact ⟨_, by first | rfl | (simp [errW_none, errW_some] <;> rfl) | (simp [*, errW_none, errW_some] <;> rfl), by (with_reducible repeat (first | apply Kd.R_alloc | apply Kd.R_drewN | apply Kd.R_drew)); exact HO125.out, by repeat (first | (with_reducible first | exact HB.out | apply below_alloc | apply pw_below_drewN | apply below_drew1) | exact HB.out)⟩
  · rw [if_neg c2] at H
    exact absurd H (by simp)
end Go.Proofs.Ytdmefmeeckjcpaa.PAll
end
section
namespace Go.Proofs.Ytdmefmeeckjcpaa.PAll
open Go.RowKit Go.Proofs.YtdmefmeeckjcpaaW.PrintWords Go.Proofs.YtdmefmeeckjcpaaW.PrintLast Go.Proofs.YtdmefmeeckjcpaaW.PrintMore
attribute [local go_sem] max2_int min2_int max_two min_two max_three min_three max_four min_four
set_option linter.unusedVariables false
set_option linter.unusedSimpArgs false
theorem part_infoE : (Try.prog.info? 24).map (fun i => (i.zero, i.size, i.bytes)) = some (some (.slice none 0 0), 1, 24) := by kernel_rfl
def partsF : Nat → List Int → Option (List (List Int))
  | _, [] => some []
  | 0, _ :: _ => none
  | _ + 1, [_] => none
  | fu + 1, a :: b :: r => if (a + 256 * b).toNat ≤ r.length then (partsF fu (r.drop (a + 256 * b).toNat)).map (r.take (a + 256 * b).toNat :: ·) else none
def Left (g : Nat) (W : World) (A : Option Addr) (rest : List Int) : Prop :=
  rest ≠ [] → ∃ off, A = some ⟨g, off, none⟩ ∧ (∃ cur, W.heap[g]? = some (.cells cur 5 (0, 0))) ∧ ∀ j z, rest[j]? = some z → W.cell? ⟨g, off + j, none⟩ = some (.int .u8 z)
theorem FKwin {W : World} {g o cc : Nat} {p : List Int} {cur : Array Value} (hcur : W.heap[g]? = some (.cells cur 5 (0, 0))) (hc : ∀ j z, p[j]? = some z → W.cell? ⟨g, o + j, none⟩ = some (.int .u8 z)) (hl : p.length ≤ 9223372036854775807) (hcc : p.length ≤ cc) :
    Kd.FK (Kd.slice 5 (Kd.int .u8)) W (fun k => k = g) p [.slice (some ⟨g, o, none⟩) p.length cc] := fun W' hW' => by
  have hlt : g < W.heap.size := (Array.getElem?_eq_some_iff.1 hcur).1
  have hg := hW' g rfl hlt
  refine ⟨_, cc, rfl, hcc, rfl, hl, fun _ => ⟨_, rfl, fun j z hz => ⟨[.int .u8 z], rfl, rfl, fun i u hu => ?_⟩⟩⟩
  rcases i with _ | i
  · simp only [List.getElem?_cons_zero, Option.some.injEq] at hu
    subst hu
    have h3 := hc j z hz
    rw [show j * (Kd.int .u8).sz + 0 = j from by simp [Kd.int, Kd.scalar], WideShapes.add_plain]
    rw [← h3]; simp [World.cell?, hg]
  · simp at hu
theorem left_next {g off c K : Nat} {x y : Int} {wr w9 : World} {r : List Int} {cur : Array Value} (hc : ∀ j z, (x :: y :: r)[j]? = some z → wr.cell? ⟨g, off + j, none⟩ = some (.int .u8 z)) (hq : wr.heap[g]? = some (.cells cur 5 (0, 0))) (h9 : w9.heap[g]? = some (.cells cur 5 (0, 0)))
    (hk : K ≤ r.length) (hle : r.length + 1 + 1 ≤ c) : Left g w9 (if c = K + 2 then some ⟨g, off, none⟩ else some ⟨g, off + (K + 2), none⟩) (r.drop K) := fun hne => by
  have hl : 0 < (r.drop K).length := List.length_pos_iff.2 hne
  rw [List.length_drop] at hl
  refine ⟨off + (K + 2), by rw [if_neg (by omega)], ⟨cur, h9⟩, fun j z hz => ?_⟩
  have h3 := hc (K + 2 + j) z (by rw [show K + 2 + j = (K + j) + 1 + 1 by omega]; simpa [List.getElem?_drop] using hz)
  rw [← Nat.add_assoc] at h3
  rw [← h3]
  simp [World.cell?, hq, h9]
def PartPost (w : World) (r : Option (List (List Int))) (e : Ending) (w' : World) : Prop :=
  ∃ v0_ : Value, e = .returned (.tuple #[v0_, .int .i64 (if r.isSome then 0 else 10)]) ∧ Kd.N (Kd.slice 5 (Kd.int .u8)) 24 w' w.heap.size (fun k_ => (w.heap.size ≤ k_)) v0_ (r.getD []) ∧ Below w.heap.size w w'
set_option maxRecDepth 100000 in
set_option maxHeartbeats 4000000 in
theorem part_loop (A0 : Option Addr) (c0 : Nat) (l0 : List Int) (w : World) (hr0 : Kd.C (Kd.int .u8) w A0 l0.length l0) (hc0 : l0.length ≤ c0) (hmx : l0.length ≤ 1099511627776) (hb : ∀ x ∈ l0, 0 ≤ x ∧ x ≤ 255) :
    Calls Try.prog 6 #[.slice A0 l0.length c0] w (PartPost w (partsF l0.length l0)) := by
  have HR0 := Aside0.mk hr0
  have HC0 := Aside0.mk hc0
  have hcl := fun W (hW : Kd.C (Kd.int .u8) W A0 l0.length l0) => slices_Clone_byte_byte.calls A0 c0 l0 l0 W hW hc0 (by simp [slices_Clone_byte_byte.f]; omega)
  clear hr0 hc0
  go_enter Try.func6, Try.ntmps6
  go_wp2_with (first | (go_at_call 9; refine (hcl _ HR0.out).mono ?_; rintro e w1 ⟨v0, rfl, ho, hbel⟩))
  obtain ⟨g, A, c, rfl, hc, hleft, hgw⟩ : ∃ g A c, v0 = .slice A l0.length c ∧ l0.length ≤ c ∧ Left g w1 A l0 ∧ w.heap.size ≤ g := by
    rcases (Kd.own_of_R ho).2 with ⟨rfl, h0⟩ | ⟨g, cap, cur, rfl, hg, hh, hn, hm, hs, ht⟩
    · have hl0 : l0 = [] := List.eq_nil_of_length_eq_zero h0
      subst hl0
      exact ⟨w.heap.size, none, 0, rfl, Nat.le_refl _, fun h => absurd rfl h, Nat.le_refl _⟩
    · refine ⟨g, _, cap, rfl, hn, fun hne => ⟨0, rfl, ⟨cur, hh⟩, fun j z hz => ?_⟩, hg⟩
      have h3 : (cur.toList.take (l0.length * 1))[j]? = some (.int .u8 z) := by rw [ht]; simp [encs, hz]
      rw [List.getElem?_take] at h3
      split at h3
      · simp only [World.cell?, hh, Nat.zero_add]
        simpa using h3
      · cases h3
  have HB0 := Aside0.mk hbel
  have HLE := Aside0.mk hleft
  have HGW := Aside0.mk hgw
  have HPF := Lib.hid (rfl : partsF l0.length l0 = partsF l0.length l0)
  clear hbel hleft hgw ho hcl
  go_loopw [0, 4] (fun bv ov wr => ∃ (pre : List (List Int)) (rest : List Int) (A : Option Addr) (c fu : Nat), bv = .slice A rest.length c ∧ Aside0 (rest.length ≤ c) ∧ Aside0 (∀ x ∈ rest, 0 ≤ x ∧ x ≤ 255) ∧ rest.length ≤ 1099511627776 ∧ Aside0 (Left g wr A rest) ∧ Aside0 (pre.length + rest.length ≤ l0.length) ∧ Aside0 (rest.length ≤ fu ∧ partsF l0.length l0 = (partsF fu rest).map (pre ++ ·)) ∧ Aside0 (Kd.N (Kd.slice 5 (Kd.int .u8)) 24 wr w.heap.size (fun k_ => w.heap.size ≤ k_) ov pre) ∧ Aside0 (Below w.heap.size w wr))
    (fun bv _ _ => match bv with | .slice _ n _ => n | _ => 0)
  case atStart => exact ⟨[], l0, A, c, l0.length, rfl, ⟨hc⟩, ⟨hb⟩, hmx, HLE, ⟨by simp⟩, ⟨Nat.le_refl _, by simp⟩, ⟨Kd.N_nil _ _ _ _ _⟩, HB0⟩
  case round =>
    clear HLE HB0 hc
    obtain ⟨pre, rest, A2, c2, fu, rfl, HC, HBY, hrl, HLE, HPL, HFU, HN, HB⟩ := hrel
    cases rest with
    | nil =>
      have hfin : partsF l0.length l0 = some pre := by rw [HFU.out.2]; cases fu <;> simp [partsF]
      have HF := Lib.hid hfin
      clear hfin
      go_wp2
      go_ret2
      rw [HF.out]
      exact ⟨_, by simp, HN.out, HB.out⟩
    | cons a r1 =>
      cases r1 with
      | nil =>
        have hfin : partsF l0.length l0 = none := by rw [HFU.out.2]; cases fu <;> simp [partsF]
        have HF := Lib.hid hfin
        clear hfin
        go_wp2
        go_ret2
        rw [HF.out]
        exact ⟨_, by simp, Kd.N_nil _ _ _ _ _, HB.out⟩
      | cons b r =>
        obtain ⟨off, rfl, ⟨cur, hcur⟩, hcells⟩ := HLE.out (by simp)
        have hca : wr.cell? ⟨g, off, none⟩ = some (.int .u8 a) := hcells 0 a rfl
        have hcb : wr.cell? ⟨g, off + 1, none⟩ = some (.int .u8 b) := hcells 1 b rfl
        have hab := HBY.out a (by simp)
        have hbb := HBY.out b (by simp)
        have ha0 := hab.1
        have ha1 := hab.2
        have hb0 := hbb.1
        have hb1 := hbb.2
        have hcc : r.length + 1 + 1 ≤ c2 := HC.out
        have HCL := Aside0.mk hcells
        clear hab hbb hcells hb
        by_cases hk : (a + 256 * b).toNat ≤ r.length
        · have hd : decide ((r.length : Int) + 1 + 1 < 2 + a + b * 256) = false := decide_eq_false (by omega)
          have hd2 : decide (2 + a + b * 256 ≤ (r.length : Int) + 1 + 1) = true := decide_eq_true (by omega)
          obtain ⟨K, hK⟩ : ∃ K : Nat, a + 256 * b = K := ⟨(a + 256 * b).toNat, by omega⟩
          rw [show (a + 256 * b).toNat = K by omega] at hk
          have HK := Lib.hid hK
          have hv : 2 + a + b * 256 = ((K + 2 : Nat) : Int) := by omega
          clear hK hd hd2
          go_wp2
          go_quiet (fail)
          clear hv
          have hd3 : decide ((r.length : Int) + 1 + 1 < (K : Int) + 2) = false := decide_eq_false (by omega)
          have hcur2 : (wr.drewN nq).heap[g]? = some (.cells cur 5 (0, 0)) := hcur
          have HND := Aside0.mk (Kd.N_drewN HN.out nq)
          have HBD := Aside0.mk (pw_below_drewN HB.out nq)
          have hfu : partsF l0.length l0 = ((partsF (fu - 1) (r.drop K)).map ((pre ++ [r.take K]) ++ ·)) := by
            rw [HFU.out.2]
            have hf1 := HFU.out.1
            simp only [List.length_cons] at hf1
            obtain ⟨fu, rfl⟩ : ∃ f, fu = f + 1 := ⟨fu - 1, by omega⟩
            simp only [partsF, show (a + 256 * b).toNat = K by have := HK.out; omega, if_pos hk, Nat.add_sub_cancel, Option.map_map]
            congr 1
            funext z
            simp
          have HFN := Lib.hid hfu
          clear hfu hcur
          rcases Nat.eq_zero_or_pos K with rfl | hKp
          · go_wp2_with (at_builtin; refine Kd.N_append (Kd.slice 5 (Kd.int .u8)) (w0 := w) w.heap.size rfl (.tmp 29) (.tmp 34) 22 24 (.slice none 0 0) 24 rfl Try.underlying22 part_infoE rfl (by decide) (by decide) u4 pre [] _ (fun k_ => w.heap.size ≤ k_) (fun k => k = g) rfl rfl ?hp ?hokp ?hfr ?HO ?HB ?hbase ?hl ?_; (case hp => exact (FKwin (p := []) hcur2 (fun j z hz => by simp at hz) (by simp) (by simp))); (case hokp => rintro k rfl; exact ⟨HGW.out, Kd.N_ne HND.out hcur2 (by decide)⟩); (case hfr => intro k hk; exact Nat.le_trans (below_size HBD.out) hk); (case HO => exact HND.out); (case HB => exact HBD.out); (case hbase => exact below_size HBD.out); (case hl => have := HPL.out; simp only [List.length_cons] at this; omega); intro v9 w9 hn9 hb9 hg9 hat9; obtain ⟨A9, c9, rfl⟩ := Kd.N_slice hn9; have HN9 := Aside0.mk hn9; have HB9 := Aside0.mk hb9; have hw9 : w9.heap[g]? = some (.cells cur 5 (0, 0)) := (hg9.block g (Array.getElem?_eq_some_iff.1 hcur2).1 (Kd.N_ne HND.out hcur2 (by decide))).trans hcur2; clear hn9 hb9 hg9 hat9)
            go_roundw
            case rel => exact ⟨pre ++ [[]], r, _, _, fu - 1, rfl, ⟨by have := HC.out; simp only [List.length_cons] at this; omega⟩, ⟨fun x hx => HBY.out x (by simp [hx])⟩, by simp only [List.length_cons] at hrl; omega, ⟨left_next (K := 0) HCL.out hcur2 hw9 (by omega) (by omega)⟩, ⟨by have := HPL.out; simp only [List.length_cons, List.length_append, List.length_nil] at this ⊢; omega⟩, ⟨by have := HFU.out.1; simp only [List.length_cons] at this; omega, by simpa using HFN.out⟩, ⟨by simpa using HN9.out⟩, HB9⟩
            case measure => simp; omega
          · have hwin : Aside0 (∀ j z, (r.take K)[j]? = some z → (wr.drewN nq).cell? ⟨g, off + 2 + j, none⟩ = some (.int .u8 z)) := ⟨fun j z hz => by
              have hz2 : (a :: b :: r)[j + 2]? = some z := by
                rw [List.getElem?_take] at hz
                split at hz
                · simpa using hz
                · cases hz
              have := HCL.out (j + 2) z hz2
              rw [show off + 2 + j = off + (j + 2) by omega]
              exact this⟩
            have hlt_ : (r.take K).length = K := by rw [List.length_take]; omega
            have HFKW : Aside0 (Kd.FK (Kd.slice 5 (Kd.int .u8)) (wr.drewN nq) (fun k => k = g) (r.take K) [.slice (some ⟨g, off + 2, none⟩) K K]) := ⟨by
              have hw_ := FKwin (o := off + 2) (cc := K) (p := r.take K) hcur2 hwin.out (by simp only [List.length_cons] at hrl; omega) (by omega)
              rw [hlt_] at hw_
              exact hw_⟩
            clear hlt_
            go_wp2_with (at_builtin; refine Kd.N_append (Kd.slice 5 (Kd.int .u8)) (w0 := w) w.heap.size rfl (.tmp 29) (.tmp 34) 22 24 (.slice none 0 0) 24 rfl Try.underlying22 part_infoE rfl (by decide) (by decide) u4 pre (r.take K) _ (fun k_ => w.heap.size ≤ k_) (fun k => k = g) rfl rfl ?hp ?hokp ?hfr ?HO ?HB ?hbase ?hl ?_; (case hp => exact HFKW.out); (case hokp => rintro k rfl; exact ⟨HGW.out, Kd.N_ne HND.out hcur2 (by decide)⟩); (case hfr => intro k hk; exact Nat.le_trans (below_size HBD.out) hk); (case HO => exact HND.out); (case HB => exact HBD.out); (case hbase => exact below_size HBD.out); (case hl => have := HPL.out; simp only [List.length_cons] at this; omega); intro v9 w9 hn9 hb9 hg9 hat9; obtain ⟨A9, c9, rfl⟩ := Kd.N_slice hn9; have HN9 := Aside0.mk hn9; have HB9 := Aside0.mk hb9; have hw9 : w9.heap[g]? = some (.cells cur 5 (0, 0)) := (hg9.block g (Array.getElem?_eq_some_iff.1 hcur2).1 (Kd.N_ne HND.out hcur2 (by decide))).trans hcur2; clear hn9 hb9 hg9 hat9)
            go_roundw
            case rel => exact ⟨pre ++ [r.take K], r.drop K, _, _, fu - 1, by rw [List.length_drop, show r.length + 1 + 1 - (K + 2) = r.length - K by omega], ⟨by have := HC.out; simp only [List.length_cons, List.length_drop] at this ⊢; omega⟩, ⟨fun x hx => HBY.out x (List.mem_cons_of_mem _ (List.mem_cons_of_mem _ (List.mem_of_mem_drop hx)))⟩, by simp only [List.length_cons, List.length_drop] at hrl ⊢; omega, ⟨left_next HCL.out hcur2 hw9 hk hcc⟩, ⟨by have := HPL.out; simp only [List.length_cons, List.length_append, List.length_nil, List.length_drop] at this ⊢; omega⟩, ⟨by have := HFU.out.1; simp only [List.length_cons, List.length_drop] at this ⊢; omega, HFN.out⟩, ⟨by simpa using HN9.out⟩, HB9⟩
            case measure => simp; omega
        · have hd : decide ((r.length : Int) + 1 + 1 < 2 + a + b * 256) = true := decide_eq_true (by omega)
          have hfin : partsF l0.length l0 = none := by
            rw [HFU.out.2]
            cases fu with
            | zero => simp [partsF]
            | succ fu => simp [partsF, hk]
          have HF := Lib.hid hfin
          clear hfin
          go_wp2
          go_quiet (fail)
          go_wp2
          go_ret2
          rw [HF.out]
          exact ⟨_, by simp, Kd.N_nil _ _ _ _ _, pw_below_drewN HB.out _⟩
def octet_Part.f (l0 : List Int) : Option (List (List Int) × Int) :=
  if l0.length ≤ 1099511627776 ∧ ∀ x ∈ l0, 0 ≤ x ∧ x ≤ 255 then some ((partsF l0.length l0).getD [], if (partsF l0.length l0).isSome then 0 else 10) else none
theorem octet_Part.calls (A0 : Option Addr) (c0 : Nat) (l0 : List Int) (r1 : List (List Int)) (r2 : Int) (w : World) (hr0 : Kd.C (Kd.int .u8) w A0 l0.length l0) (hc0 : l0.length ≤ c0) (h : octet_Part.f l0 = some (r1, r2)) :
    Calls Try.prog 6 #[.slice A0 l0.length c0] w fun e w' => ∃ v0_ : Value, e = .returned (.tuple #[v0_, .int .i64 r2]) ∧ Kd.N (Kd.slice 5 (Kd.int .u8)) 24 w' w.heap.size (fun k_ => (w.heap.size ≤ k_)) v0_ r1 ∧ Below w.heap.size w w' := by
  unfold octet_Part.f at h
  by_cases h5 : l0.length ≤ 1099511627776 ∧ ∀ x ∈ l0, 0 ≤ x ∧ x ≤ 255
  · rw [if_pos h5] at h
    simp only [Option.some.injEq, Prod.mk.injEq] at h
    obtain ⟨rfl, rfl⟩ := h
    exact part_loop A0 c0 l0 w hr0 hc0 h5.1 h5.2
  · rw [if_neg h5] at h
    cases h
end Go.Proofs.Ytdmefmeeckjcpaa.PAll
end
section
namespace Go.Proofs.Ytdmefmeeckjcpaa.PAll
open Go.RowKit Go.Proofs.YtdmefmeeckjcpaaW.PrintWords Go.Proofs.YtdmefmeeckjcpaaW.PrintLast Go.Proofs.YtdmefmeeckjcpaaW.PrintMore
attribute [local go_sem] max2_int min2_int max_two min_two max_three min_three max_four min_four
set_option linter.unusedVariables false
set_option linter.unusedSimpArgs false
section
open Go.Shelf
def ChK (n₀ Bs Bn : Nat) (W W' : World) : Prop := Below n₀ W W' ∧ W'.heap[Bs]? = W.heap[Bs]? ∧ W'.heap[Bn]? = W.heap[Bn]?
theorem ChK.t {n₀ Bs Bn : Nat} {A B C : World} (h : ChK n₀ Bs Bn A B) (k : ChK n₀ Bs Bn B C) : ChK n₀ Bs Bn A C := ⟨h.1.trans k.1, k.2.1.trans h.2.1, k.2.2.trans h.2.2⟩
theorem ChK.b {n₀ Bs Bn : Nat} {w : World} (hn : n₀ ≤ w.heap.size) (hs : Bs < w.heap.size) (hm : Bn < w.heap.size) (W : World) (l : Nat) (o o' : Obj) (hl : w.heap.size ≤ l) (h : W.heap[l]? = some o) (hc : o.isCells = false) (hw : o.isWalk = false) : ChK n₀ Bs Bn W (W.putObj l o') :=
  ⟨belowK_b hn W l o o' hl h hc hw, World.putObj_heap_other (by omega), World.putObj_heap_other (by omega)⟩
section
attribute [local go_sem] Oper.semAt_some
set_option maxRecDepth 100000 in
set_option maxHeartbeats 2000000 in
theorem chunk1_in (n : Nat) (hn : 1 ≤ n) (l Bs Bn n₀ b off sz m cap : Nat) (hsz : 0 < sz) (hsz8 : sz ≤ 8) (hreach : m * sz ≤ 1099511627776) (hcap : m * sz ≤ cap) (J Jx : Nat → World → Prop)
    (hY : ∀ k W, k < m → J k W → YieldAt Fence.wide (n - 1) Try.prog l #[.slice (some ⟨b, off + k * sz, none⟩) sz sz] W fun e W' =>
      (e = .returned (.bool true) ∧ J (k + 1) W' ∧ ChK n₀ Bs Bn W W') ∨ (e = .returned (.bool false) ∧ Jx (k + 1) W'))
    (hJd : ∀ k W q, J k W → J k (World.drewN W q)) (W : World) (A : Option Addr) (hA : 0 < m → A = some ⟨b, off, none⟩) (hBs : Boxed W Bs 24 (.slice A (m * sz) cap)) (hBn : Boxed W Bn 3 (.int .i64 sz)) (h0 : J 0 W) :
    CallsIn Fence.wide n Try.prog 12 #[.func (.yield l) #[] #[], .pointer (some ⟨Bs, 0, none⟩), .pointer (some ⟨Bn, 0, none⟩)] W fun e W' => (∃ v, e = .returned v) ∧
      (J m W' ∨ (∃ k, k ≤ m ∧ Jx k W')) := by
  refine callsIn_of_wp Try.func12 rfl trivial ?_ rfl
  simp only [Try.ntmps12, List.size_toArray, List.length_cons, List.length_nil, Nat.reduceAdd, Nat.reduceSub, Array.replicate_succ, Array.replicate_zero, List.push_toArray, List.append_toArray, List.nil_append, List.cons_append]
  gi_wp2
  gi_loopw [4] (fun i wr => ∃ k : Nat, k ≤ m ∧ i = .int .i64 (k * sz : Nat) ∧ J k wr ∧ ChK n₀ Bs Bn W wr)
    (fun i _ => m * sz - (intOf i).toNat)
  case atStart => exact ⟨0, Nat.zero_le _, by simp, h0, Below.refl _ _, rfl, rfl⟩
  case round =>
    obtain ⟨k, hk, rfl, hJs, hnx⟩ := hrel
    have hs1 : Boxed wr Bs 24 (.slice A (m * sz) cap) := hnx.2.1.trans hBs
    have hn1 : Boxed wr Bn 3 (.int .i64 sz) := hnx.2.2.trans hBn
    have hcs := hs1.cell
    have hcn := hn1.cell
    by_cases hlt : k < m
    · obtain rfl := hA (by omega)
      have hks : k * sz + sz ≤ m * sz := by rw [← Nat.succ_mul]; exact Nat.mul_le_mul_right _ hlt
      generalize hM : m * sz = M at *
      generalize hK : k * sz = K at *
      have HM := Lib.hid hM
      have HK := Lib.hid hK
      clear hM hK
      have hmin : min sz (M - K) = sz := by omega
      have hminI : min (sz : Int) ((M : Int) - (K : Int)) = sz := by omega
      gi_wp2
      gi_quiet (fail)
      obtain ⟨fn, tmps, assign, body, hy, hR⟩ := hY k (wr.drewN nq) hlt (hJd _ _ _ hJs)
      rw [HK.out] at hy
      have hnx2 : ChK n₀ Bs Bn wr (wr.drewN nq) := ⟨pw_below_drewN (Below.refl _ _) _, rfl, rfl⟩
      have e1 : K + sz - K = sz := by omega
      have hnx0 := Aside0.mk hnx
      clear hY hnx
      gi_wp2
      refine hR.mono ?_
      rintro e W3 (⟨rfl, hJ3, hk3⟩ | ⟨rfl, hJx3⟩)
      · have hn3 : Boxed W3 Bn 3 (.int .i64 sz) := hk3.2.2.trans ((hnx2.2.2).trans hn1)
        have hcn3 := hn3.cell
        clear e1
        gi_wp2
        go_roundw
        case rel => exact ⟨k + 1, by omega, by rw [Nat.succ_mul, HK.out]; simp, hJ3, ChK.t hnx0.out (ChK.t hnx2 hk3)⟩
        case measure => simp [intOf]; omega
      · gi_wp2
        refine bodyPost_ret (results_none rfl _ _ _) rfl ?_
        exact ⟨⟨_, rfl⟩, .inr ⟨k + 1, by omega, hJx3⟩⟩
    · obtain rfl : k = m := by omega
      gi_wp2
      go_end0
      exact ⟨⟨_, rfl⟩, .inl hJs⟩
theorem chunk_in (n : Nat) (A : Option Addr) (len cap sz : Nat) (h1 : 1 ≤ sz) (h8 : sz ≤ 8) (w : World) :
    CallsIn Fence.wide n Try.prog 11 #[.slice A len cap, .int .i64 sz] w fun e w' => e = .returned (.func (.func 12) #[] #[.pointer (some ⟨w.heap.size, 0, none⟩), .pointer (some ⟨w.heap.size + 1, 0, none⟩)]) ∧
      w' = (w.alloc (.cells #[.slice A len cap] 24)).alloc (.cells #[.int .i64 sz] 3) := by
  have hd : decide ((sz : Int) < 1) = false := decide_eq_false (by omega)
  have hd2 : decide (sz < 1) = false := decide_eq_false (by omega)
  refine callsIn_of_wp Try.func11 rfl trivial ?_ rfl
  simp only [Try.ntmps11, List.size_toArray, List.length_cons, List.length_nil, Nat.reduceAdd, Nat.reduceSub, Array.replicate_succ, Array.replicate_zero, List.push_toArray, List.append_toArray, List.nil_append, List.cons_append]
  gi_wp2
  go_ret
  exact ⟨rfl, rfl⟩
theorem grownBy_drewN (W : World) (q : Nat) : W.grownBy (W.drewN q) none := ⟨rfl, rfl, rfl, Nat.le_refl _, fun _ _ _ => rfl⟩
theorem chunk_stops (n : Nat) (hn : 1 ≤ n) (Bs Bn n₀ b off sz m cap : Nat) (hsz : 0 < sz) (hsz8 : sz ≤ 8) (hreach : m * sz ≤ 1099511627776) (hcap : m * sz ≤ cap) (A : Option Addr) (hA : 0 < m → A = some ⟨b, off, none⟩)
    (w : World) (hBs : Boxed w Bs 24 (.slice A (m * sz) cap)) (hBn : Boxed w Bn 3 (.int .i64 sz)) :
    SeqStopsK Fence.wide n Try.prog 12 #[.pointer (some ⟨Bs, 0, none⟩), .pointer (some ⟨Bn, 0, none⟩)] (fun x : Fin m => #[Value.slice (some ⟨b, off + x.val * sz, none⟩) sz sz]) (ChK n₀ Bs Bn) (fun ys => ys = List.finRange m) (fun _ => True) m w := fun l J Jx W hW hJ _ hY h0 => by
  have tk : ∀ k (hk : k < m), (List.finRange m).take (k + 1) = (List.finRange m).take k ++ [⟨k, hk⟩] := fun k hk => by
    rw [List.take_succ_eq_append_getElem (by simpa using hk)]; simp
  refine (chunk1_in n hn l Bs Bn n₀ b off sz m cap hsz hsz8 hreach hcap (fun k => J ((List.finRange m).take k)) (fun k => Jx ((List.finRange m).take k)) (fun k W1 hk hj => ?_) (fun pre W q hj => hJ _ W _ none hj (grownBy_drewN W q) (fun r e => by cases e)) W A hA ((hW.block Bs hBs.lt).trans hBs) ((hW.block Bn hBn.lt).trans hBn) h0).mono ?_
  · simp only [tk k hk]
    exact hY _ ⟨k, hk⟩ W1 hj (by rw [List.length_take, List.length_finRange]; omega)
  · rintro e W' ⟨he, hj | ⟨k, _, hj⟩⟩
    · exact ⟨he, .inl ⟨_, by rw [List.take_of_length_le (by simp)], hj⟩⟩
    · exact ⟨he, .inr ⟨_, trivial, hj⟩⟩
theorem get_infoE : (Try.prog.info? 31).map (fun i => (i.zero, i.size, i.bytes)) = some (some (.int .u64 0), 1, 8) := by kernel_rfl
def leNum : List Int → Int
  | [] => 0
  | b :: r => b + 256 * leNum r
def gets (sz m : Nat) (l : List Int) : List Int := (List.range m).map fun j => leNum ((l.drop (j * sz)).take sz)
theorem leNum_lt (l : List Int) (h : ∀ x ∈ l, 0 ≤ x ∧ x ≤ 255) : 0 ≤ leNum l ∧ leNum l < 256 ^ l.length := by
  induction l with
  | nil => simp [leNum]
  | cons a r ih =>
    have h1 := h a (List.mem_cons_self ..)
    obtain ⟨h2, h3⟩ := ih (fun x hx => h x (List.mem_cons_of_mem _ hx))
    simp only [leNum, List.length_cons, Int.pow_succ]
    omega
theorem leNum_snoc (l : List Int) (z : Int) : leNum (l ++ [z]) = leNum l + z * 256 ^ l.length := by
  induction l with
  | nil => simp [leNum]
  | cons a r ih => simp only [List.cons_append, leNum, ih, List.length_cons, Int.pow_succ]; rw [Int.mul_add, ← Int.mul_assoc, Int.mul_comm 256 z, Int.mul_assoc z, Int.mul_comm 256 (256 ^ r.length), Int.add_assoc]
theorem pow_256 (k : Nat) : (256 : Int) ^ k = 2 ^ (8 * k) := by rw [Int.pow_mul]; rfl
theorem wraps_u64 (n : Int) (h0 : 0 ≤ n) (h1 : n < 2 ^ 64) : IntKind.u64.wrap n = n := by
  simp only [IntKind.wrap, IntKind.signed, IntKind.bits]
  simp
  omega
theorem get_step (l : List Int) (X k : Nat) (z : Int) (hk : k < 8) (hz : l[X + k]? = some z) (hb : ∀ x ∈ l, 0 ≤ x ∧ x ≤ 255) :
    bits BinOp.or IntKind.u64 (leNum ((l.drop X).take k)) (IntKind.u64.wrap (z * 2 ^ (8 * k))) = leNum ((l.drop X).take (k + 1)) := by
  have hz2 := hb z (List.mem_of_getElem? hz)
  have hd : (l.drop X)[k]? = some z := by rw [List.getElem?_drop]; exact hz
  have htk : (l.drop X).take (k + 1) = (l.drop X).take k ++ [z] := by rw [List.take_add_one, hd]; rfl
  have hlt : k < (l.drop X).length := (List.getElem?_eq_some_iff.1 hd).1
  have hlen : ((l.drop X).take k).length = k := by rw [List.length_take]; omega
  obtain ⟨h2, h3⟩ := leNum_lt ((l.drop X).take k) (fun x hx => hb x (List.mem_of_mem_drop (List.mem_of_mem_take hx)))
  rw [hlen, pow_256] at h3
  rw [htk, leNum_snoc, hlen, pow_256]
  generalize leNum ((l.drop X).take k) = N at *
  have hp : (2 : Int) ^ (8 * k) * 256 ≤ 2 ^ 64 := by
    have e : (2 : Int) ^ (8 * k) * 256 = 2 ^ (8 * k + 8) := by rw [Int.pow_add]; rfl
    rw [e]
    exact_mod_cast Nat.pow_le_pow_right (by decide : 0 < 2) (by omega : 8 * k + 8 ≤ 64)
  have hp0 : (0 : Int) < 2 ^ (8 * k) := Int.pow_pos (by decide)
  have hw : IntKind.u64.wrap (z * 2 ^ (8 * k)) = z * 2 ^ (8 * k) := wraps_u64 _ (Int.mul_nonneg hz2.1 (Int.le_of_lt hp0)) (by
    have : z * 2 ^ (8 * k) ≤ 255 * 2 ^ (8 * k) := Int.mul_le_mul_of_nonneg_right hz2.2 (Int.le_of_lt hp0)
    omega)
  rw [hw]
  obtain ⟨a, rfl⟩ := Int.eq_ofNat_of_zero_le h2
  obtain ⟨c, rfl⟩ := Int.eq_ofNat_of_zero_le hz2.1
  have ha : a < 2 ^ (8 * k) := by exact_mod_cast h3
  have hc : c * 2 ^ (8 * k) < 2 ^ 64 := by
    have h5 : c * 2 ^ (8 * k) ≤ 255 * 2 ^ (8 * k) := Nat.mul_le_mul_right _ (by omega)
    have h6 : 2 ^ (8 * k) * 256 ≤ 2 ^ 64 := by
      rw [show (256 : Nat) = 2 ^ 8 by rfl, ← Nat.pow_add]; exact Nat.pow_le_pow_right (by decide) (by omega)
    omega
  have ha2 : a < 2 ^ 64 := Nat.lt_of_lt_of_le ha (Nat.pow_le_pow_right (by decide) (by omega))
  rw [show ((c : Int) * 2 ^ (8 * k)) = ((c * 2 ^ (8 * k) : Nat) : Int) by simp, (bits_nat .u64 64 (by decide) wraps_u64 a _ ha2 hc).2, Nat.or_comm, Nat.mul_comm c, ← Nat.two_pow_add_eq_or_of_lt ha c]
  simp [Int.add_comm, Int.mul_comm]
set_option maxRecDepth 100000 in
set_option maxHeartbeats 4000000 in
theorem get_in (n : Nat) (hn : 3 ≤ n) (sz m : Nat) (h1 : 1 ≤ sz) (h8 : sz ≤ 8) (hreach : m * sz ≤ 1099511627776) (A : Option Addr) (cap : Nat) (l : List Int) (hl : l.length = m * sz) (hcap : m * sz ≤ cap) (hb : ∀ x ∈ l, 0 ≤ x ∧ x ≤ 255) (w : World) (hr : Kd.C (Kd.int .u8) w A (m * sz) l) :
    CallsIn Fence.wide n Try.prog 8 #[.int .i64 sz, .slice A (m * sz) cap] w fun e W' => ∃ v, e = .returned (.tuple #[v, .int .i64 0]) ∧ W'.ownsRow w.heap.size 31 1 v (gets sz m l).length (nums .u64 (gets sz m l)) ∧ Below w.heap.size w W' := by
  obtain ⟨i0, hi, hz0, hz1, hz2⟩ := info_parts get_infoE
  have hmay : ∀ W : World, CallsIn (Fence.wide) (n - 1) Try.prog 10 #[.int .i64 sz] W fun e W' => e = .returned (.bool true) ∧ ∃ q, W' = W.drewN q := fun W =>
    callsIn_wide.2 ((octet_may.calls sz true W (by unfold octet_may.f; rw [if_pos (by omega), decide_eq_true (by omega)])).mono fun e W' h => ⟨h.1, h.2.out⟩)
  generalize hM : m * sz = M at *
  have HM := Lib.hid hM
  have hrem : (M : Int) % (sz : Int) = 0 := by
    rw [← hM]; simp
  clear hM
  refine callsIn_of_wp_marks Try.func8 rfl trivial ?_ rfl
  simp only [Try.ntmps8, List.size_toArray, List.length_cons, List.length_nil, Nat.reduceAdd, Nat.reduceSub, Array.replicate_succ, Array.replicate_zero, List.push_toArray, List.append_toArray, List.nil_append, List.cons_append]
  gi_wp2_with (first | (refine ⟨trivial, (fun h_ => by cases h_), ?_⟩; gi_at_call 10; refine (hmay _).mono ?_; rintro e w' ⟨rfl, q, rfl⟩) | (refine ⟨trivial, (fun h_ => by cases h_), ?_⟩; gi_at_call 11; refine (chunk_in (n - 1) A M cap sz h1 h8 _).mono ?_; rintro e w' ⟨rfl, rfl⟩))
  have bO := Boxed.new (w.drewN q) 32 (.slice none 0 0)
  have bS := Boxed.new ((w.drewN q).alloc (.cells #[.slice none 0 0] 32)) 24 (.slice A M cap)
  have bN := Boxed.new (((w.drewN q).alloc (.cells #[.slice none 0 0] 32)).alloc (.cells #[.slice A M cap] 24)) 3 (.int .i64 sz)
  simp only [World.size_alloc] at bO bS bN
  replace bO : Boxed _ w.heap.size 32 (.slice none 0 0) := bO
  replace bS : Boxed _ (w.heap.size + 1) 24 (.slice A M cap) := bS
  replace bN : Boxed _ (w.heap.size + 1 + 1) 3 (.int .i64 sz) := bN
  have hB0 : Below w.heap.size w ((((w.drewN q).alloc (.cells #[.slice none 0 0] 32)).alloc (.cells #[.slice A M cap] 24)).alloc (.cells #[.int .i64 sz] 3)) :=
    below_alloc (below_alloc (below_alloc (pw_below_drewN (Below.refl _ _) q) _) _) _
  have hsize : ((((w.drewN q).alloc (.cells #[.slice none 0 0] 32)).alloc (.cells #[.slice A M cap] 24)).alloc (.cells #[.int .i64 sz] 3)).heap.size = w.heap.size + 3 := by simp
  have bO' := (bO.alloc (.cells #[.slice A M cap] 24)).alloc (.cells #[.int .i64 sz] 3)
  have bS' := bS.alloc (.cells #[.int .i64 sz] 3)
  generalize hW0 : (((w.drewN q).alloc (.cells #[.slice none 0 0] 32)).alloc (.cells #[.slice A M cap] 24)).alloc (.cells #[.int .i64 sz] 3) = W0 at *
  clear hW0
  obtain ⟨b, off, hA⟩ : ∃ b off, 0 < m → A = some ⟨b, off, none⟩ := by
    rcases Nat.eq_zero_or_pos m with h0 | h0
    · exact ⟨0, 0, fun h => by omega⟩
    · have hMp : 0 < M := by rw [← HM.out]; exact Nat.mul_pos h0 h1
      obtain ⟨ad, hA, hc⟩ := hr.2.2 hMp
      have hne : 0 < l.length := by omega
      obtain ⟨cs, hcl, hK, hcell⟩ := hc 0 _ (List.getElem?_eq_getElem hne)
      have hcs : cs = [.int .u8 l[0]] := hK
      subst hcs
      have := hcell 0 _ rfl
      obtain ⟨bb, oo, ss⟩ := ad
      cases ss with
      | none => exact ⟨bb, oo, fun _ => hA⟩
      | some z => simp [World.cell?, Addr.add] at this; split at this <;> simp_all
  have hcells : ∀ j, j < M → ∃ x, l[j]? = some x ∧ w.cell? ⟨b, off + j, none⟩ = some (.int .u8 x) := fun j hj => by
    have hm0 : 0 < m := by
      rcases Nat.eq_zero_or_pos m with h0 | h0
      · rw [h0, Nat.zero_mul] at HM; have := HM.out; omega
      · exact h0
    obtain ⟨ad, hA', hc⟩ := hr.2.2 (by omega)
    rw [hA hm0] at hA'
    cases hA'
    have hjl : j < l.length := by omega
    obtain ⟨cs, hcl, hK, hcell⟩ := hc j _ (List.getElem?_eq_getElem hjl)
    have hcs : cs = [.int .u8 l[j]] := hK
    subst hcs
    refine ⟨l[j], List.getElem?_eq_getElem hjl, ?_⟩
    have h3 := hcell 0 _ rfl
    rwa [show j * (Kd.int .u8).sz + 0 = j from by simp [Kd.int, Kd.scalar], WideShapes.add_plain] at h3
  refine wpIn_rangeFunc_ownG rfl (by omega) (gf := 12) (lb := #[.pointer (some ⟨w.heap.size + 1, 0, none⟩), .pointer (some ⟨w.heap.size + 1 + 1, 0, none⟩)]) rfl trivial (enters_of Try.func12 (by kernel_rfl) rfl)
    (chunk_stops (n - 1) (by omega) (w.heap.size + 1) (w.heap.size + 1 + 1) w.heap.size b off sz m cap h1 h8 (by rw [HM.out]; exact hreach) (by rw [HM.out]; exact hcap) A hA W0 (by rw [HM.out]; exact bS') bN) ChK.t (ChK.b (by omega) (by omega) (by omega)) (Below.refl _ _) (fun _ => rfl)
    (fun (pre : List (Fin m)) W => (∃ v, Boxed W w.heap.size 32 v ∧ W.ownsRow w.heap.size 31 1 v pre.length (nums .u64 (pre.map fun j => leNum ((l.drop (j.val * sz)).take sz))) ∧ True) ∧ (Below w.heap.size w W ∧ (Boxed W (w.heap.size + 1) 24 (.slice A M cap) ∧ Boxed W (w.heap.size + 1 + 1) 3 (.int .i64 sz))))
    (fun _ _ _ => False)
    (OwnFrom.and (Own.from (holdsRow_own w.heap.size w.heap.size 32 31 1 (fun pre : List (Fin m) => pre.length) (fun pre : List (Fin m) => nums .u64 (pre.map fun j => leNum ((l.drop (j.val * sz)).take sz))) (fun pre v => True)) _) (OwnFrom.and (ownFrom_below (Nat.le_refl _) (by omega)) (OwnFrom.and (Own.from (boxed_own _ _ (fun _ => _)) _) (Own.from (boxed_own _ _ (fun _ => _)) _))))
    (fun _ _ _ _ _ hs _ _ => hs)
    ⟨⟨_, bO', World.ownsRow_nil _ _ _ _, trivial⟩, hB0, bS', bN⟩
    (fun x => { tmps := #[.int .i64 sz, .slice A M cap, undef, undef, .slice none 0 0, .int .i64 0, .pointer (some ⟨w.heap.size, 0, none⟩), .slice (some ⟨b, off + x.val * sz, none⟩) sz sz, undef, undef, undef, .bool false, .int .i64 sz, .bool true, .bool false, .bool false, .slice A M cap, .int .i64 M, .int .i64 sz, .int .i64 0, .bool false, .slice A M cap, .int .i64 sz, .func (.func 12) #[] #[.pointer (some ⟨w.heap.size + 1, 0, none⟩), .pointer (some ⟨w.heap.size + 1 + 1, 0, none⟩)], .slice (some ⟨b, off + x.val * sz, none⟩) sz sz, undef, undef, undef, undef, undef, undef, undef, undef, undef, undef, undef, undef, undef, undef, undef, undef, undef, undef, undef, undef], defers := [] }) ?assign ?body ?done ?stop
  case assign =>
    intro l x W K hK
    gi_wp2
    exact hK
  case body =>
    rintro l0 pre x W ⟨⟨v, hv, hrow, -⟩, hB, bS2, bN2⟩ hlt
    have hc := hv.cell
    have hxm : x.val * sz + sz ≤ M := by rw [← HM.out, ← Nat.succ_mul]; exact Nat.mul_le_mul_right _ x.isLt
    have hcx : ∀ j, j < sz → ∃ z, l[x.val * sz + j]? = some z ∧ W.cell? ⟨b, off + x.val * sz + j, none⟩ = some (.int .u8 z) := fun j hj => by
      obtain ⟨z, h3, h4⟩ := hcells (x.val * sz + j) (by omega)
      exact ⟨z, h3, by rw [Nat.add_assoc]; exact (hB.cell (World.block_lt_of_cell? w _ h4)).trans h4⟩
    generalize hX : x.val * sz = X at *
    have HX := Lib.hid hX
    clear hX
    have hbx : ∀ j z, l[X + j]? = some z → 0 ≤ z ∧ z ≤ 255 := fun j z hz => hb z (List.mem_of_getElem? hz)
    gi_wp2
    gi_loopw [8, 27] (fun xv i wr => ∃ k : Nat, k ≤ sz ∧ i = .int .i64 k ∧ xv = .int .u64 (leNum ((l.drop X).take k)) ∧ wr = W) (fun _ i _ => sz - (intOf i).toNat)
    case atStart => exact ⟨0, Nat.zero_le _, by simp, by simp [leNum], rfl⟩
    case round =>
      obtain ⟨k, hk, rfl, rfl, rfl⟩ := hrel
      by_cases hks : k < sz
      · obtain ⟨z, hz, hcz⟩ := hcx k hks
        have hz2 := hbx k z hz
        clear hcx hbx
        have hgs := get_step l X k z (by omega) hz hb
        gi_wp2
        go_roundw
        case rel => exact ⟨k + 1, by omega, by go_num, rfl, trivial⟩
        case measure => simp [intOf]; omega
      · obtain rfl : k = sz := by omega
        clear hcx hbx
        have hmM : m ≤ M := by rw [← HM.out]; exact Nat.le_mul_of_pos_right _ h1
        gi_wp2_with (gi_at_builtin; refine wpListIn_append_own _ rfl _ _ 32 rfl w.heap.size 31 i0 (.int .u64 0) 1 8 Try.underlying32 hi hz0 hz1 hz2 rfl (by decide) _ _ _ rfl (hrow.alloc _) ⟨wr.heap.size, 0, none⟩ 1 1 [.int .u64 (leNum (List.take k (List.drop X l)))] rfl rfl (cell_one_new _ _ _) (by simp [Value.oneCell']) (by simp only [maxLen]; omega) (by omega) (by have := hB.size; simp; omega) ?_; intro v' w1 hown' hgrow _; obtain ⟨g', cap', rfl⟩ := ownsRow_succ hown'; obtain ⟨hv1, hv2, hr2, hk2, hb2⟩ := hv.appended (by decide) hrow hB.size (Nat.le_refl _) hown' hgrow; have hc1 := hv1.cell; have hf1 := hv1.frozen)
        have hgX : leNum (List.take k (List.drop X l)) = leNum ((l.drop (x.val * k)).take k) := by rw [HX.out]
        have e1 : Boxed w1 (w.heap.size + 1) 24 (.slice A M cap) := (bS2.alloc _).kept hgrow (bS2.not_row (by decide) hrow)
        have e2 : Boxed w1 (w.heap.size + 1 + 1) 3 (.int .i64 k) := (bN2.alloc _).kept hgrow (bN2.not_row (by decide) hrow)
        have e3 := e1.other (B' := w.heap.size) (by omega) (.slice (some ⟨g', 0, none⟩) (pre.length + 1) cap')
        have e4 := e2.other (B' := w.heap.size) (by omega) (.slice (some ⟨g', 0, none⟩) (pre.length + 1) cap')
        refine ⟨hk2.from _, ⟨hb2, e3.trans bS2.symm, e4.trans bN2.symm⟩, ⟨⟨_, hv2, ?_, trivial⟩, hB.trans hb2, e3, e4⟩⟩
        rw [List.map_append, nums_append, List.length_append]
        simp only [List.map_cons, List.map_nil, ← hgX]
        exact hr2
  case done =>
    rintro D ys W hD rfl ⟨⟨v, hv, hrow, -⟩, hB, -, -⟩ hK
    have hc := hv.cell
    gi_wp2
    refine ⟨by simp, .inl ⟨_, _, rfl, run_takeDeferred hK, ?_⟩⟩
    have hgl : (gets sz m l).length = (List.finRange m).length := by simp [gets]
    have hge : gets sz m l = (List.finRange m).map fun j => leNum ((l.drop (j.val * sz)).take sz) := by
      unfold gets; apply List.ext_getElem <;> simp
    exact ⟨_, results_tmp2 rfl _ _ _, v, rfl, by rw [hgl, hge]; exact ownsRow_putObj hrow _ hK rfl, hB.trans (belowK_b (w := w) (Nat.le_refl _) W D _ _ (by have := hB0.size; omega) hK rfl rfl)⟩
  case stop =>
    rintro D c pre W _ _ h _
    exact h.elim
def octet_Get.f (a0 : Int) (l1 : List Int) : Option (List Int × Int) :=
  if a0 < 1 ∨ 8 < a0 then some ([], 1)
  else if (l1.length : Int) % a0 ≠ 0 then some ([], 10)
  else if l1.length ≤ 1099511627776 ∧ ∀ x ∈ l1, 0 ≤ x ∧ x ≤ 255 then some (gets a0.toNat (l1.length / a0.toNat) l1, 0) else none
end
set_option maxRecDepth 100000 in
set_option maxHeartbeats 4000000 in
theorem octet_Get.calls (a0 : Int) (A1 : Option Addr) (c1 : Nat) (l1 : List Int) (r1 : List Int) (r2 : Int) (w : World) (hr1 : Kd.C (Kd.int .u8) w A1 l1.length l1) (hc1 : l1.length ≤ c1) (h : octet_Get.f a0 l1 = some (r1, r2)) :
    Calls Try.prog 8 #[.int .i64 a0, .slice A1 l1.length c1] w fun e w' => ∃ v0_ : Value, e = .returned (.tuple #[v0_, .int .i64 r2]) ∧ Kd.R (Kd.int .u64) 31 w' w.heap.size (fun _ => True) v0_ r1 ∧ Below w.heap.size w w' := by
  unfold octet_Get.f at h
  have hmay : ∀ (b : Bool) (W : World), octet_may.f a0 = some b → Calls Try.prog 10 #[.int .i64 a0] W fun e W' => e = .returned (.bool b) ∧ ∃ q, W' = W.drewN q := fun b W hb =>
    (octet_may.calls a0 b W hb).mono fun e W' h => ⟨h.1, h.2.out⟩
  have hl := hr1.2.1
  by_cases h1 : a0 < 1 ∨ 8 < a0
  · rw [if_pos h1] at h
    simp only [Option.some.injEq, Prod.mk.injEq] at h
    obtain ⟨rfl, rfl⟩ := h
    have hm := fun W => hmay false W (by unfold octet_may.f; rcases h1 with h1 | h1; · rw [if_neg (by omega)]
                                         · rw [if_pos (by omega), decide_eq_false (by omega)])
    clear h1 hmay
    go_enter Try.func8, Try.ntmps8
    go_wp2_with (first | (go_at_call 10; refine (hm _).mono ?_; rintro e w' ⟨rfl, q, rfl⟩))
    go_ret2
    exact ⟨_, rfl, Kd.R_nil _ _ _ _ _, pw_below_drewN (Below.refl _ _) _⟩
  · rw [if_neg h1] at h
    have hm := fun W => hmay true W (by unfold octet_may.f; rw [if_pos (by omega), decide_eq_true (by omega)])
    by_cases h2 : (l1.length : Int) % a0 ≠ 0
    · rw [if_pos h2] at h
      simp only [Option.some.injEq, Prod.mk.injEq] at h
      obtain ⟨rfl, rfl⟩ := h
      have h3 : 1 ≤ a0 := by omega
      have h4 : a0 ≤ 8 := by omega
      have hq : ((l1.length : Int) % a0 == 0) = false := by simpa using h2
      have hq2 : ((l1.length : Int) % a0 != 0) = true := by simpa using h2
      clear h1 hmay h2
      go_enter Try.func8, Try.ntmps8
      go_wp2_with (first | (go_at_call 10; refine (hm _).mono ?_; rintro e w' ⟨rfl, q, rfl⟩))
      go_ret2
      exact ⟨_, rfl, Kd.R_nil _ _ _ _ _, pw_below_drewN (Below.refl _ _) _⟩
    · rw [if_neg h2] at h
      by_cases h5 : l1.length ≤ 1099511627776 ∧ ∀ x ∈ l1, 0 ≤ x ∧ x ≤ 255
      · rw [if_pos h5] at h
        simp only [Option.some.injEq, Prod.mk.injEq] at h
        obtain ⟨rfl, rfl⟩ := h
        obtain ⟨sz, rfl⟩ := Int.eq_ofNat_of_zero_le (show 0 ≤ a0 by omega)
        have hdv : l1.length / sz * sz = l1.length := Nat.div_mul_cancel (Nat.dvd_of_mod_eq_zero (by omega))
        have H := get_in 5 (by omega) sz (l1.length / sz) (by omega) (by omega) (by omega) A1 c1 l1 hdv.symm (by omega) h5.2 w (by rw [hdv]; exact hr1)
        rw [hdv] at H
        refine (callsIn_wide.1 H).mono ?_
        rintro e W' ⟨v, rfl, ho, hb⟩
        rw [Int.toNat_natCast]
        exact ⟨v, rfl, Kd.R_of_own (enc := Value.int .u64) (h1 := fun _ => rfl) ho (fun _ _ => trivial), hb⟩
      · rw [if_neg h5] at h
        cases h
end
end Go.Proofs.Ytdmefmeeckjcpaa.PAll
end
section
namespace Go.Proofs.Ytdmefmeeckjcpaa.PAll
open Go.RowKit Go.Proofs.YtdmefmeeckjcpaaW.PrintWords Go.Proofs.YtdmefmeeckjcpaaW.PrintLast Go.Proofs.YtdmefmeeckjcpaaW.PrintMore
attribute [local go_sem] max2_int min2_int max_two min_two max_three min_three max_four min_four
set_option linter.unusedVariables false
set_option linter.unusedSimpArgs false
theorem C_lit (k : IntKind) (xs : List Int) (W : World) (e : Nat) (fr : Nat × Nat) (hm : xs.length ≤ 9223372036854775807) : Kd.C (Kd.int k) (W.alloc (.cells (nums k xs).toArray e fr)) (some ⟨W.heap.size, 0, none⟩) xs.length xs := by
  refine ⟨rfl, hm, fun _ => ⟨_, rfl, fun j p hp => ⟨[.int k p], rfl, rfl, fun i u hu => ?_⟩⟩⟩
  rcases i with _ | i
  · simp only [List.getElem?_cons_zero, Option.some.injEq] at hu
    subst hu
    rw [show j * (Kd.int k).sz + 0 = j from by simp [Kd.int, Kd.scalar], WideShapes.add_plain]
    have hn : (W.alloc (.cells (nums k xs).toArray e fr)).heap[W.heap.size]? = some (.cells (nums k xs).toArray e fr) := World.alloc_heap_new W _
    unfold World.cell?
    rw [hn]
    simp [nums, hp]
  · simp at hu
theorem awk_rows (W : World) : Kd.C (Kd.slice 5 (Kd.int .u8)) ((W.alloc (.cells #[.int .u8 97] 5 (1, 2))).alloc (.cells #[.slice (some ⟨W.heap.size, 0, none⟩) 1 1, .slice none 0 0] 24)) (some ⟨W.heap.size + 1, 0, none⟩) 2 [[97], []] := by
  have hn : ((W.alloc (.cells #[.int .u8 97] 5 (1, 2))).alloc (.cells #[.slice (some ⟨W.heap.size, 0, none⟩) 1 1, .slice none 0 0] 24)).heap[W.heap.size + 1]? = some (.cells #[.slice (some ⟨W.heap.size, 0, none⟩) 1 1, .slice none 0 0] 24 (0, 0)) := by
    have := World.alloc_heap_new (W.alloc (.cells #[.int .u8 97] 5 (1, 2))) (.cells #[.slice (some ⟨W.heap.size, 0, none⟩) 1 1, .slice none 0 0] 24)
    rwa [World.size_alloc] at this
  refine ⟨rfl, by decide, fun _ => ⟨_, rfl, fun j p hp => ?_⟩⟩
  rcases j with _ | _ | j
  · simp only [List.getElem?_cons_zero, Option.some.injEq] at hp
    subst hp
    refine ⟨[.slice (some ⟨W.heap.size, 0, none⟩) 1 1], rfl, ⟨_, 1, rfl, by decide, Kd.C_below (C_lit .u8 [97] W 5 (1, 2) (by decide)) (below_alloc (Below.refl _ _) _)⟩, fun i u hu => ?_⟩
    rcases i with _ | i
    · simp only [List.getElem?_cons_zero, Option.some.injEq] at hu
      subst hu
      rw [WideShapes.add_plain]; unfold World.cell?; rw [hn]; rfl
    · simp at hu
  · simp only [Nat.zero_add, List.getElem?_cons_succ, List.getElem?_cons_zero, Option.some.injEq] at hp
    subst hp
    refine ⟨[.slice none 0 0], rfl, ⟨none, 0, rfl, by decide, Kd.C_nil _ _⟩, fun i u hu => ?_⟩
    rcases i with _ | i
    · simp only [List.getElem?_cons_zero, Option.some.injEq] at hu
      subst hu
      rw [WideShapes.add_plain]; unfold World.cell?; rw [hn]; rfl
    · simp at hu
  · simp at hp
set_option maxRecDepth 100000 in
set_option maxHeartbeats 4000000 in
theorem awake_true (w : World) : Calls Try.prog 4 #[] w fun e w' => e = .returned (.bool true) ∧ Below w.heap.size w w' := by
  have HB := Aside0.mk (Below.refl w.heap.size w)
  have hput : ∀ W : World, Calls Try.prog 7 #[.int .i64 2, .slice (some ⟨W.heap.size, 0, none⟩) 2 2] (W.alloc (.cells #[.int .u64 258, .int .u64 1] 31)) _ := fun W => octet_Put.calls 10 2 _ 2 [258, 1] [2, 1, 1, 0] _ (C_lit .u64 [258, 1] W 31 (0, 0) (by decide)) (by decide) (by decide +kernel)
  have kc := fun (W : World) (C : Array Value) (n c : Nat) => Go.Lib.run_convert_bytes_const (P := Try.prog) W 24 5 C n c Try.underlying24 Try.underlying5
  go_enter Try.func4, Try.ntmps4
  go_wp2_with (first
    | (go_at_call 7; refine (hput _).mono ?_; rintro e w1 ⟨v1, rfl, ho1, hb1⟩; obtain ⟨A1, c1, rfl⟩ := Kd.R_slice ho1; have HO1 := Aside0.mk ho1; have HB1 := Aside0.mk ((below_alloc HB.out _).trans (hb1.mono (by simp))); have h1s : w.heap.size ≤ w1.heap.size := below_size HB1.out; clear ho1 hb1 HB)
    | (go_at_call 8; refine (octet_Get.calls 2 _ _ [2, 1, 1, 0] [258, 1] 0 _ (Kd.R_reads' HO1.out).2.2 (Kd.R_reads' HO1.out).2.1 (by decide +kernel)).mono ?_; rintro e w2 ⟨v2, rfl, ho2, hb2⟩; obtain ⟨A2, c2, rfl⟩ := Kd.R_slice ho2; have HO2 := Aside0.mk ho2; have HO1' := Aside0.mk (Kd.R_below HO1.out hb2); have HB2 := Aside0.mk (HB1.out.trans (hb2.mono h1s)); have h2s : w.heap.size ≤ w2.heap.size := below_size HB2.out; clear ho2 hb2 HB1 HO1)
    | (go_at_call 5; refine (octet_Join.calls 10 _ 2 [[97], []] [1, 0, 97, 0, 0] _ (awk_rows _) (by decide) (by decide +kernel)).mono ?_; rintro e w3 ⟨v3, rfl, ho3, hb3⟩; obtain ⟨A3, c3, rfl⟩ := Kd.R_slice ho3; have HO3 := Aside0.mk ho3; have hbb := (below_alloc (below_alloc (Below.refl w2.heap.size w2) _) _).trans (hb3.mono (by simp; omega)); have HO2' := Aside0.mk (Kd.R_below HO2.out hbb); have HO1'' := Aside0.mk (Kd.R_below HO1'.out hbb); have HB3 := Aside0.mk (HB2.out.trans (hbb.mono h2s)); have h3s : w.heap.size ≤ w3.heap.size := below_size HB3.out; clear ho3 hb3 hbb HB2 HO1' HO2)
    | (go_at_call 6; refine (octet_Part.calls _ _ [1, 0, 97, 0, 0] [[97], []] 0 _ (Kd.R_reads' HO3.out).2.2 (Kd.R_reads' HO3.out).2.1 (by decide +kernel)).mono ?_; rintro e w4 ⟨v4, rfl, ho4, hb4⟩; obtain ⟨A4, c4, rfl⟩ := Kd.N_slice ho4; have HB4 := Aside0.mk (HB3.out.trans (hb4.mono h3s)); have cv1 : (convert 24 9 (.slice A1 4 c1)).run Try.prog w4 = .ok (.string ⟨#[2, 1, 1, 0]⟩) w4 := own_string (P := Try.prog) Try.underlying24 Try.underlying5 Try.underlying9 (Kd.own_of_R (Kd.R_below HO1''.out hb4)); have cv3 : (convert 24 9 (.slice A3 5 c3)).run Try.prog w4 = .ok (.string ⟨#[1, 0, 97, 0, 0]⟩) w4 := own_string (P := Try.prog) Try.underlying24 Try.underlying5 Try.underlying9 (Kd.own_of_R (Kd.R_below HO3.out hb4)); obtain ⟨B2, rfl, cell2x⟩ := (own_reads' (Kd.own_of_R (Kd.R_below HO2'.out hb4))).at_ 0 (by decide) (by decide); have cell2 : w4.cell? B2 = some (.int .u64 258) := (by simpa [Addr.add, rd] using cell2x); clear cell2x; obtain ⟨ad4, hA4, _⟩ := (Kd.N_reads' ho4).2.2.2.2 (by decide); subst hA4; obtain ⟨q4, _, fk4, cell4⟩ := Kd.N_get ho4 [] 0 (by decide) (by decide); obtain ⟨A5, c5, rfl, hc5, hC5⟩ := Kd.FK_now fk4; have cell4' : w4.cell? ad4 = some (.slice A5 1 c5) := (by have h_ := cell4 0 _ rfl; simpa [Addr.add] using h_); have cv4 : (convert 24 9 (.slice A5 1 c5)).run Try.prog w4 = .ok (.string ⟨#[97]⟩) w4 := string_of_reads (P := Try.prog) (c := c5) Try.underlying24 Try.underlying5 Try.underlying9 (Kd.reads_of_C hC5); clear ho4 hb4 cell4 hC5 fk4 HB3))
  go_ret
  exact ⟨rfl, HB4.out⟩
def paternosterlaw01_awake.f : Option Bool := some true
theorem paternosterlaw01_awake.calls (r : Bool) (w : World) (h : paternosterlaw01_awake.f = some r) : Calls Try.prog 4 #[] w fun e w' => e = .returned (.bool r) ∧ Below w.heap.size w w' := by
  obtain rfl : true = r := by simpa [paternosterlaw01_awake.f] using h
  exact awake_true w
end Go.Proofs.Ytdmefmeeckjcpaa.PAll
end
section
set_option linter.unusedVariables false
set_option linter.unusedSimpArgs false
namespace Go.Proofs.Ytdmefmeeckjcpaa.Pure
open Go.RowKit Go.Proofs.Ytdmefmeeckjcpaa.PAll Go.Proofs.YtdmefmeeckjcpaaW.PrintWords Go.Proofs.YtdmefmeeckjcpaaW.PrintLast Go.Proofs.YtdmefmeeckjcpaaW.PrintMore
theorem w64 (n : Int) (h : -9223372036854775808 ≤ n ∧ n ≤ 9223372036854775807) : wrap64 n = n := by unfold wrap64; omega
theorem wu64 (n : Int) (h : 0 ≤ n ∧ n < 18446744073709551616) : IntKind.u64.wrap n = n := by
  simp only [IntKind.wrap, IntKind.signed, IntKind.bits]; simp; omega
def dig (x : Int) (i : Nat) : Int := x / 2 ^ (8 * i) % 256
def le (n : Nat) (x : Int) : List Int := (List.range n).map (dig x)
def puts (n : Nat) (l : List Int) : List Int := l.flatMap (le n)
theorem le_length (n : Nat) (x : Int) : (le n x).length = n := by simp [le]
theorem puts_cons (n : Nat) (a : Int) (r : List Int) : puts n (a :: r) = le n a ++ puts n r := by simp [puts]
theorem may_true (n : Int) (h : 1 ≤ n ∧ n ≤ 8) : octet_may.f n = some true := by unfold octet_may.f; rw [if_pos (by omega), decide_eq_true (by omega)]
theorem put_l1 (n : Nat) (hn : n ≤ 8) (x : Int) (l : List Int) (j : Int) (r : List Int) (acc0 : List Int) (K : Nat) (hb : acc0.length + 8 ≤ 140737488355327)
    (hK : ∀ k, K ≤ k → octet_Put.l0 k n (acc0 ++ le n x) l (l.length : Int) (wrap64 (j + 1)) = some r) (d : Nat) : ∀ (k i : Nat), n - i = d → i ≤ n → d + K < k →
    octet_Put.l1 k n (acc0 ++ le i x) x l (l.length : Int) j n (i : Int) = some r := by
  induction d with
  | zero =>
    intro k i hd hi hk
    obtain ⟨k, rfl⟩ : ∃ m, k = m + 1 := ⟨k - 1, by omega⟩
    obtain rfl : i = n := by omega
    simp only [octet_Put.l1]
    rw [if_neg (by omega)]
    exact hK k (by omega)
  | succ d ih =>
    intro k i hd hi hk
    obtain ⟨k, rfl⟩ : ∃ m, k = m + 1 := ⟨k - 1, by omega⟩
    simp only [octet_Put.l1]
    have hs : shr .u64 x (wrap64 (8 * (i : Int))) % 256 = dig x i := by
      rw [w64 _ (by omega)]
      unfold shr dig
      rw [show min (8 * (i : Int)).toNat IntKind.u64.bits = 8 * i by simp [IntKind.bits]; omega]
    rw [if_pos (by omega), w64 (8 * (i : Int)) (by omega), if_pos (by omega), if_pos (by rw [List.length_append, le_length]; omega), ← w64 (8 * (i : Int)) (by omega), hs, w64 ((i : Int) + 1) (by omega)]
    have := ih k (i + 1) (by omega) (by omega) (by omega)
    rw [show le (i + 1) x = le i x ++ [dig x i] by simp [le, List.range_succ], ← List.append_assoc] at this
    exact_mod_cast this
theorem put_l0 (n : Nat) (hn : n ≤ 8) (l : List Int) (d : Nat) : ∀ (j : Nat) (acc : List Int), l.length - j = d → j ≤ l.length → acc.length + 8 * d + 8 ≤ 140737488355327 → l.length ≤ 140737488355327 →
    ∃ K, ∀ k, K ≤ k → octet_Put.l0 k n acc l (l.length : Int) j = some (acc ++ puts n (l.drop j)) := by
  induction d with
  | zero =>
    intro j acc hd hj hb _
    refine ⟨1, fun k hk => ?_⟩
    obtain ⟨k, rfl⟩ : ∃ m, k = m + 1 := ⟨k - 1, by omega⟩
    simp only [octet_Put.l0]
    rw [if_neg (by omega), List.drop_of_length_le (by omega)]
    simp [puts]
  | succ d ih =>
    intro j acc hd hj hb hl
    have hlt : j < l.length := by omega
    obtain ⟨K, hK⟩ := ih (j + 1) (acc ++ le n l[j]) (by omega) (by omega) (by rw [List.length_append, le_length]; omega) hl
    refine ⟨n + K + 2, fun k hk => ?_⟩
    obtain ⟨k, rfl⟩ : ∃ m, k = m + 1 := ⟨k - 1, by omega⟩
    simp only [octet_Put.l0]
    have hrd : rd l (j : Int) = l[j] := by unfold rd; rw [Int.toNat_natCast, List.getD_eq_getElem?_getD, List.getElem?_eq_getElem hlt, Option.getD_some]
    rw [if_pos (by omega), if_pos (by omega), if_pos (by omega), hrd]
    have h0 := put_l1 n hn l[j] l j (acc ++ puts n (l.drop j)) acc K (by omega) (fun k hk => by
      rw [w64 ((j : Int) + 1) (by omega)]
      have := hK k hk
      rw [List.append_assoc] at this
      rw [List.drop_eq_getElem_cons hlt, puts_cons]
      exact_mod_cast this) n k 0 (by omega) (by omega) (by omega)
    simpa [le] using h0
theorem put_ev (n : Nat) (h1 : 1 ≤ n) (h8 : n ≤ 8) (l : List Int) (hl : l.length ≤ 1099511627776) : ∃ K, ∀ k, K ≤ k → octet_Put.f k n l = some (puts n l) := by
  obtain ⟨K, hK⟩ := put_l0 n h8 l l.length 0 [] (by omega) (by omega) (by rw [List.length_nil]; omega) (by omega)
  refine ⟨K, fun k hk => ?_⟩
  unfold octet_Put.f
  rw [may_true n (by omega)]
  simpa using hK k hk
theorem le_two (x : Int) : le 2 x = [x % 256, x / 256 % 256] := by simp [le, dig, List.range_succ]
def rowB (r : List Int) : List Int := le 2 (r.length : Int) ++ r
def joinF (rows : List (List Int)) : List Int := rows.flatMap rowB
theorem joinF_nil : joinF [] = [] := rfl
theorem joinF_cons (r : List Int) (rs : List (List Int)) : joinF (r :: rs) = rowB r ++ joinF rs := by simp [joinF]
theorem joinF_append (a b : List (List Int)) : joinF (a ++ b) = joinF a ++ joinF b := by simp [joinF]
theorem rowB_length (r : List Int) : (rowB r).length = r.length + 2 := by simp [rowB, le_length]; omega
theorem joinF_length_le (m : Nat) (rows : List (List Int)) (h : ∀ r ∈ rows, r.length ≤ m) : (joinF rows).length ≤ (m + 2) * rows.length := by
  induction rows with
  | nil => simp [joinF]
  | cons r rs ih =>
    have h1 := h r (List.mem_cons_self ..)
    have h2 := ih (fun x hx => h x (List.mem_cons_of_mem _ hx))
    rw [joinF_cons, List.length_append, rowB_length, List.length_cons, Nat.mul_add, Nat.mul_one]
    omega
theorem rdL2_nat (l : List (List Int)) (i : Nat) (hi : i < l.length) : rd_L2 l (i : Int) = l[i] := by
  unfold rd_L2; rw [Int.toNat_natCast, List.getD_eq_getElem?_getD, List.getElem?_eq_getElem hi, Option.getD_some]
theorem join_l0 (rows : List (List Int)) (hr : ∀ r ∈ rows, r.length ≤ 65535) (hn : rows.length ≤ 1000000) (d : Nat) : ∀ (j : Nat) (acc : List Int), rows.length - j = d → j ≤ rows.length → acc.length + 65537 * d ≤ 100000000000 →
    ∃ K, ∀ k, K ≤ k → octet_Join.l0 k acc rows (rows.length : Int) j = some (acc ++ joinF (rows.drop j)) := by
  induction d with
  | zero =>
    intro j acc hd hj hb
    refine ⟨1, fun k hk => ?_⟩
    obtain ⟨k, rfl⟩ : ∃ m, k = m + 1 := ⟨k - 1, by omega⟩
    simp only [octet_Join.l0]
    rw [if_neg (by omega), List.drop_of_length_le (by omega), joinF_nil, List.append_nil]
  | succ d ih =>
    intro j acc hd hj hb
    have hlt : j < rows.length := by omega
    have hrl := hr rows[j] (List.getElem_mem hlt)
    obtain ⟨K, hK⟩ := ih (j + 1) (acc ++ rowB rows[j]) (by omega) (by omega) (by rw [List.length_append, rowB_length]; omega)
    obtain ⟨K2, hK2⟩ := put_ev 2 (by omega) (by omega) [((rows[j]).length : Int)] (by rw [List.length_singleton]; omega)
    refine ⟨K + K2 + 1, fun k hk => ?_⟩
    obtain ⟨k, rfl⟩ : ∃ m, k = m + 1 := ⟨k - 1, by omega⟩
    have hmn : mn ((rows[j]).length : Int) 65535 = ((rows[j]).length : Int) := by unfold mn; first | omega | (split <;> omega)
    have hput := hK2 k (by omega)
    have hp2 : puts 2 [((rows[j]).length : Int)] = le 2 ((rows[j]).length : Int) := by simp [puts]
    rw [hp2] at hput
    have hl2 : (le 2 ((rows[j]).length : Int)).length = 2 := le_length _ _
    simp only [octet_Join.l0]
    rw [if_pos (by omega), if_pos (by omega), if_pos (by omega), rdL2_nat rows j hlt, hmn, if_pos (by omega), if_pos (by omega), Int.toNat_natCast, List.take_length, wu64 _ (by omega)]
    have hput' : octet_Put.f k 2 [((rows[j]).length : Int)] = some (le 2 ((rows[j]).length : Int)) := hput
    rw [hput']
    simp only [Option.bind_some]
    rw [if_pos (by omega), if_pos (by rw [List.length_append]; omega), w64 _ (by omega)]
    have := hK k (by omega)
    rw [List.drop_eq_getElem_cons hlt, joinF_cons]
    simp only [rowB, List.append_assoc] at this ⊢
    exact_mod_cast this
theorem join_ev (rows : List (List Int)) (hr : ∀ r ∈ rows, r.length ≤ 65535) (hn : rows.length ≤ 1000000) : ∃ K, ∀ k, K ≤ k → octet_Join.f k rows = some (joinF rows) := by
  obtain ⟨K, hK⟩ := join_l0 rows hr hn rows.length 0 [] (by omega) (by omega) (by rw [List.length_nil]; omega)
  exact ⟨K, fun k hk => by unfold octet_Join.f; simpa using hK k hk⟩
end Go.Proofs.Ytdmefmeeckjcpaa.Pure
end
section
namespace Go.Proofs.Ytdmefmeeckjcpaa.SF
open Go.RowKit Go.Sx Go.Proofs.Ytdmefmeeckjcpaa.PAll Go.Proofs.YtdmefmeeckjcpaaW.PrintWords Go.Proofs.YtdmefmeeckjcpaaW.PrintLast Go.Proofs.YtdmefmeeckjcpaaW.PrintMore
open Go.Proofs.Ytdmefmeeckjcpaa.Pure (joinF joinF_cons joinF_append joinF_length_le rowB rowB_length join_ev le_two)
set_option linter.unusedVariables false
set_option linter.unusedSimpArgs false
def RowC (w : World) (p : Gh) (l : List Int) : Prop := l.length ≤ p.2 ∧ Kd.C (Kd.int .u8) w p.1 l.length l
theorem RowC.below {w w' : World} {p : Gh} {l : List Int} (h : RowC w p l) (hb : Below w.heap.size w w') : RowC w' p l := ⟨h.1, Kd.C_below h.2 hb⟩
theorem RowC.ofCells {w : World} {ad : Addr} {c : Nat} {l : List Int} (hc : l.length ≤ c) (hn : l.length ≤ 9223372036854775807) (h : ∀ j x, l[j]? = some x → w.cell? (ad.add j) = some (.int .u8 x)) : RowC w (some ad, c) l :=
  ⟨hc, rfl, hn, fun _ => ⟨ad, rfl, fun j x hx => ⟨[.int .u8 x], rfl, rfl, fun i u hu => by
    rcases i with _ | i
    · cases hu
      rw [show j * (Kd.int .u8).sz + 0 = j by simp [Kd.int, Kd.scalar]]
      exact h j x hx
    · simp at hu⟩⟩⟩
section
variable {P : Program} {ops : Array Oper} {Q : Exit → Act → World → Prop} {w0 : World} {N : Fr} {l : List Oper} {env : Env} {hp : List Sx.Item} {o : Oper}
theorem q_slice_lhm {T E : TypeId} {x lo hi m : Operand} {A : Option Addr} {n c sz : Nat} {k1 k2 k3 : IntKind} {i1 i2 i3 : Int} (ho : o.op = .slice T x (some lo) (some hi) (some m)) (hx : evE x env = some (.slice A n c)) (hl : evE lo env = some (.int k1 i1)) (hh : evE hi env = some (.int k2 i2)) (hm : evE m env = some (.int k3 i3)) (hT : P.underlying T = some (.slice E)) (hs : P.sizeIs E = some sz) (h0 : 0 ≤ i1) (h1 : i1 ≤ i2) (h2 : i2 ≤ i3) (h3 : i3 ≤ c) :
    OpQ P o env w0 hp (.slice (if i3.toNat = i1.toNat then A else A.map (·.add (i1.toNat * sz))) (i2.toNat - i1.toNat) (i3.toNat - i1.toNat)) := q_run fun a w he hh2 => by
  have r3 := run_bound (P := P) (k := k3) (code := .slice3Acap) (i := i3) (y := c) (by omega) h3 w
  have r2 := run_bound (P := P) (k := k2) (code := .slice3B) (i := i2) (y := i3.toNat) (by omega) (by omega) w
  have r1 := run_bound (P := P) (k := k1) (code := .slice3C) (i := i1) (y := i2.toNat) (by omega) (by omega) w
  unfold execOp
  simp only [ho, ev_of he hx, ev_of he hl, ev_of he hh, ev_of he hm, Instr.sliceAt, Sem.run_bind, run_underlying hT, Result.andThen_ok, Instr.slice, Sem.run_pure, Instr.sliceBounds, Option.map_some, Option.map_none, Option.isSome_some, Option.isSome_none, Bool.false_eq_true, if_false, if_true, r1, r2, r3, Go.Sx.run_sizeOf hs]
end
def win (g o n : Nat) : Value := .slice (some ⟨g, if n = 0 then o else o + 2, none⟩) n n
def wins (g : Nat) : Nat → List (List Int) → List Value
  | _, [] => []
  | o, r :: R => win g o r.length :: wins g (o + (r.length + 2)) R
theorem wins_length (g : Nat) : ∀ (o : Nat) (R : List (List Int)), (wins g o R).length = R.length
  | _, [] => rfl
  | o, r :: R => by simp [wins, wins_length g _ R]
theorem wins_snoc (g : Nat) : ∀ (o : Nat) (R : List (List Int)) (r : List Int), wins g o (R ++ [r]) = wins g o R ++ [win g (o + (joinF R).length) r.length]
  | o, [], r => by simp [wins, joinF]
  | o, a :: R, r => by
    have := wins_snoc g (o + (a.length + 2)) R r
    simp only [List.cons_append, wins, this, joinF_cons, List.length_append, rowB_length]
    congr 3
    rw [Nat.add_assoc]
theorem wins_at (g : Nat) : ∀ (o : Nat) (R : List (List Int)) (j : Nat) (r : List Int), R[j]? = some r → (wins g o R)[j]? = some (win g (o + (joinF (R.take j)).length) r.length)
  | _, [], j, r, h => by simp at h
  | o, a :: R, 0, r, h => by cases h; simp [wins, joinF]
  | o, a :: R, j + 1, r, h => by
    have := wins_at g (o + (a.length + 2)) R j r (by simpa using h)
    rw [wins, List.getElem?_cons_succ, this, List.take_succ_cons, joinF_cons, List.length_append, rowB_length, Nat.add_assoc]
theorem nums_at {l : List Int} {j : Nat} {x : Int} (h : l[j]? = some x) : (nums .u8 l)[j]? = some (.int .u8 x) := by simp [nums, h]
theorem join_at (D : List (List Int)) (r : List Int) (R : List (List Int)) (hr : r.length ≤ 65535) : (joinF (D ++ r :: R))[(joinF D).length]? = some ((r.length : Int) % 256) ∧ (joinF (D ++ r :: R))[(joinF D).length + 1]? = some ((r.length : Int) / 256) ∧ ∀ (k : Nat) (x : Int), r[k]? = some x → (joinF (D ++ r :: R))[(joinF D).length + 2 + k]? = some x := by
  have e : joinF (D ++ r :: R) = joinF D ++ (((r.length : Int) % 256) :: ((r.length : Int) / 256) :: (r ++ joinF R)) := by
    rw [joinF_append, joinF_cons, rowB, le_two, show ((r.length : Int) / 256 % 256) = (r.length : Int) / 256 by omega]
    simp
  rw [e]
  refine ⟨by rw [List.getElem?_append_right (Nat.le_refl _)]; simp, by rw [List.getElem?_append_right (by omega)]; simp, fun k x hx => ?_⟩
  rw [List.getElem?_append_right (by omega), show (joinF D).length + 2 + k - (joinF D).length = k + 2 by omega]
  simp only [List.getElem?_cons_succ]
  rw [List.getElem?_append_left (List.getElem?_eq_some_iff.1 hx).1]
  exact hx
theorem join_len (D : List (List Int)) (r : List Int) (R : List (List Int)) : (joinF (D ++ r :: R)).length = (joinF D).length + (r.length + 2) + (joinF R).length := by
  rw [joinF_append, joinF_cons, List.length_append, List.length_append, rowB_length]; omega
theorem wrap_id {x : Int} (h : -9223372036854775808 ≤ x ∧ x ≤ 9223372036854775807) : IntKind.i64.wrap x = x := by
  simp only [IntKind.wrap, IntKind.signed, IntKind.bits]; simp; omega
theorem head_eq {n : Nat} (h : n ≤ 65535) : IntKind.i64.wrap (IntKind.i64.wrap (2 + IntKind.i64.wrap ((n : Int) % 256)) + IntKind.i64.wrap (IntKind.i64.wrap ((n : Int) / 256) * 2 ^ (min (8 : Int).toNat IntKind.i64.bits))) = ((n + 2 : Nat) : Int) := by
  rw [show (2 : Int) ^ (min (8 : Int).toNat IntKind.i64.bits) = 256 from rfl, wrap_id (x := (n : Int) % 256) (by omega), wrap_id (x := (n : Int) / 256) (by omega), wrap_id (x := 2 + (n : Int) % 256) (by omega), wrap_id (x := (n : Int) / 256 * 256) (by omega), wrap_id (by omega)]
  omega
theorem blk_cell {w : World} {g n j : Nat} {cs : List Value} {L : List Int} {x : Int} (h : Blk w g cs 5) (ht : cs.take n = nums .u8 L) (hx : L[j]? = some x) : w.cell? ⟨g, j, none⟩ = some (.int .u8 x) := by
  have h1 := nums_at hx
  rw [← ht, List.getElem?_take] at h1
  split at h1
  · rw [cell_of_row w g j cs.toArray 5 (0, 0) h]; simpa using h1
  · cases h1
section
variable {P : Program} {ops : Array Oper} {Q : Exit → Act → World → Prop} {w0 : World} {N : Fr} {l : List Oper} {env : Env} {hp hp' : List Sx.Item} {o : Oper}
theorem fq_eq {x : Exit} (e : hp = hp') (k : FQ Q x w0 N env hp') : FQ Q x w0 N env hp := e ▸ k
end
theorem own_fresh {w0 w : World} {e sz n : Nat} {v : Value} {xs : List Value} (h : HeapOK w0 [.own 0 e sz v n xs, old w0] w) {b : Nat} (hb : v.ownBlock = some b) : w0.heap.size ≤ b := by
  have h3 := List.pairwise_iff_getElem.1 h.apart 0 1 (by simp) (by simp) (by decide)
  rcases Nat.lt_or_ge b w0.heap.size with hl | hl
  · exact absurd (show (old w0).foot b from hl) (h3.l rfl b hb)
  · exact hl
section
variable {P : Program} {ops : Array Oper} {Q : Exit → Act → World → Prop} {w0 : World} {N : Fr} {l : List Oper} {env : Env} {hp hp' : List Sx.Item} {o : Oper}
theorem wl_appendFull {s x : Operand} {T E sz by_ d m c n : Nat} {ad ad2 : Addr} {olds news : List Value} (ho : o.op = .call { callee := .builtin .append, args := #[s, x], argTypes := #[T, T] }) (hg : o.guard = none) (hd : o.dst = some d) (hN : d < N)
    (hT : P.underlying T = some (.slice E)) (hE : (P.info? E).map (fun i => (i.size, i.bytes, (i.zero.map (fun z => z.cells.size)).getD 0)) = some (sz, by_, sz)) (hsz : 0 < sz)
    (hs : evE s env = some (.slice (some ad) n n)) (hx : evE x env = some (.slice (some ad2) m c)) (hlo : olds.length = n * sz) (holds : Reads w0 hp ad olds) (hnews : Reads w0 hp ad2 news) (hl : news.length = m * sz) (hm : 0 < m)
    (hmax : n + m ≤ maxLen) (hby : (n + m) * by_ ≤ 140737488355328)
    (k : ∀ A c', WL P ops Q w0 N l ((d, .slice A (n + m) c') :: env) hp) : WL P ops Q w0 N (o :: l) env hp := by
  intro a w h
  cases hI : P.info? E with
  | none => rw [hI] at hE; cases hE
  | some i0 =>
    rw [hI] at hE
    simp only [Option.map_some, Option.some.injEq, Prod.mk.injEq] at hE
    obtain ⟨e1, e2, e3⟩ := hE
    cases hz : i0.zero with
    | none => rw [hz] at e3; simp at e3; omega
    | some z =>
      rw [hz] at e3
      simp only [Option.map_some, Option.getD_some] at e3
      obtain ⟨v', w', hr, hown, hgr⟩ := run_append_arg_grows (P := P) w T o.type E i0 z sz by_ hT hI hz e1 e2 e3 hsz ad n n olds hlo (holds w h.heap) ad2 m c news hl (hnews w h.heap) (by omega) hmax hby
      refine wpList_plain hg fun K hK => ?_
      unfold Oper.wp execOp
      simp only [ho, resolve, invoke, builtin, Sem.run_bind, Sem.run_pure, Result.andThen_ok, List.map_toArray, List.map_cons, List.map_nil, ev_of h.env hs, ev_of h.env hx, hr]
      refine hK _ _ ?_
      rw [hd]
      rcases hown.2 with ⟨rfl, h0⟩ | ⟨g, cap, cur, rfl, r⟩
      · omega
      · exact k _ _ _ _ (h.put d _ hN (h.heap.below ⟨hgr.os, hgr.tape, hgr.output, hgr.size, fun k hk => hgr.block k hk (by simp)⟩))
end
theorem put_at {cs : List Value} {o j : Nat} {v : Value} (ho : o < cs.length) (hj : o + 1 ≤ j) : (cs.take o ++ [v] ++ cs.drop (o + 1))[j]? = cs[j]? := by
  rw [List.append_assoc, List.getElem?_append_right (by rw [List.length_take]; omega), List.length_take, Nat.min_eq_left (by omega), List.singleton_append, show j - o = (j - o - 1) + 1 by omega, List.getElem?_cons_succ, List.getElem?_drop]
  congr 1; omega
theorem put_len {cs : List Value} {o : Nat} {v : Value} (ho : o < cs.length) : (cs.take o ++ [v] ++ cs.drop (o + 1)).length = cs.length := by
  simp; omega
theorem rows_at {w : World} {q : Gh} {rows : List (List Int)} {i : Nat} {r : List Int} (h : Kd.C (Kd.slice 5 (Kd.int .u8)) w q.1 rows.length rows) (hi : rows[i]? = some r) : ∃ (ad : Addr) (p : Gh), q.1 = some ad ∧ w.cell? (ad.add i) = some (.slice p.1 r.length p.2) ∧ RowC w p r := by
  have hlt := (List.getElem?_eq_some_iff.1 hi).1
  obtain ⟨ad, c, e, _, hK, hc0⟩ := Kd.C_get h ([] : List Int) (i : Int) (by omega) (by omega)
  rw [List.getD_eq_getElem?_getD, Int.toNat_natCast, hi] at hK
  have hc : ∀ j u, c[j]? = some u → w.cell? (ad.add ((i : Int).toNat * 1 + j)) = some u := hc0
  obtain ⟨A0, c0, rfl, l0, g0⟩ := hK
  exact ⟨ad, (A0, c0), e, by have hq := hc 0 _ rfl; rwa [Nat.mul_one, Nat.add_zero, Int.toNat_natCast] at hq, l0, g0⟩
theorem win_row {w : World} {g o : Nat} {cs : List Value} {r : List Int} (h : Blk w g cs 5) (hn : r.length ≤ 65535) (hx : ∀ (k : Nat) (x : Int), r[k]? = some x → cs[o + 2 + k]? = some (.int .u8 x)) : RowC w (some ⟨g, if r.length = 0 then o else o + 2, none⟩, r.length) r :=
  RowC.ofCells (Nat.le_refl _) (by omega) (fun j x hj => by
    have hlt := (List.getElem?_eq_some_iff.1 hj).1
    rw [if_neg (by omega), Addr.add_lit, cell_of_row w g _ cs.toArray 5 (0, 0) h]
    simpa using hx j x hj)
theorem ptr_eq {g o n k : Nat} (hk : k < n) : Value.pointer (some ((⟨g, if n = 0 then o else o + 2, none⟩ : Addr).add ((k : Int).toNat * 1))) = .pointer (some ⟨g, o + 2 + k, none⟩) := by
  rw [if_neg (by omega), Addr.add_lit, Int.toNat_natCast, Nat.mul_one]
theorem ptr_eq0 {g k : Nat} : Value.pointer (some ((⟨g, 0, none⟩ : Addr).add ((k : Int).toNat * 1))) = .pointer (some ⟨g, k, none⟩) := by
  rw [Addr.add_lit, Int.toNat_natCast, Nat.mul_one, Nat.zero_add]
theorem join_calls (q : Gh) (rows : List (List Int)) (w : World) (hr : Kd.C (Kd.slice 5 (Kd.int .u8)) w q.1 rows.length rows) (hq : rows.length ≤ q.2) (hl : ∀ r ∈ rows, r.length ≤ 65535) (hn : rows.length ≤ 1000000) :
    Calls Try.prog 5 #[.slice q.1 rows.length q.2] w fun e w' => ∃ i : Gh, e = .returned (.slice i.1 (joinF rows).length i.2) ∧ RowC w' i (joinF rows) ∧ Below w.heap.size w w' := by
  obtain ⟨K, hK⟩ := join_ev rows hl hn
  refine (octet_Join.calls K q.1 q.2 rows (joinF rows) w hr hq (hK K (Nat.le_refl _))).mono ?_
  rintro e w' ⟨v, rfl, hR, hB⟩
  obtain ⟨A, c, rfl, h1, h2⟩ := Kd.R_reads hR
  exact ⟨(A, c), rfl, ⟨h1, h2⟩, hB⟩
theorem clone_calls (q : Gh) (l : List Int) (w : World) (h : RowC w q l) (hl : l.length ≤ 1000000) (hne : l ≠ []) :
    Calls Try.prog 9 #[.slice q.1 l.length q.2] w fun e w' => ∃ i : Nat × Nat × List Value, e = .returned (.slice (some ⟨i.1, 0, none⟩) l.length i.2.1) ∧ (l.length ≤ i.2.1 ∧ w.heap.size ≤ i.1 ∧ Blk w' i.1 i.2.2 5 ∧ i.2.2.take l.length = nums .u8 l) ∧ Below w.heap.size w w' := by
  have hc := slices_Clone_byte_byte.calls q.1 q.2 l l w h.2 h.1 (by simp [slices_Clone_byte_byte.f]; omega)
  refine hc.mono ?_
  rintro e w' ⟨v, rfl, hR, hB⟩
  rcases (own_of_R hR).2 with ⟨rfl, h0⟩ | ⟨g, cap, cur, rfl, hg, hh, hn, hm, hs, ht⟩
  · exact absurd (List.eq_nil_of_length_eq_zero h0) hne
  · exact ⟨(g, cap, cur.toList), rfl, ⟨hn, hg, by simpa [Blk] using hh, by simpa using ht⟩, hB⟩
end Go.Proofs.Ytdmefmeeckjcpaa.SF
end
section
namespace Go.Proofs.Ytdmefmeeckjcpaa.SF
open Go.RowKit Go.Sx Go.Proofs.Ytdmefmeeckjcpaa.PAll Go.Proofs.YtdmefmeeckjcpaaW.PrintWords Go.Proofs.YtdmefmeeckjcpaaW.PrintLast Go.Proofs.YtdmefmeeckjcpaaW.PrintMore
open Go.Proofs.Ytdmefmeeckjcpaa.Pure (joinF joinF_cons joinF_append joinF_length_le rowB rowB_length join_ev le_two)
set_option linter.unusedVariables false
set_option linter.unusedSimpArgs false
set_option maxRecDepth 100000
theorem win_eq {A : Gh} {g off n : Nat} (hA : A.1 = some ⟨g, off, none⟩) : Value.slice (if (((n + 2 : Nat) : Int)).toNat = (2 : Int).toNat then A.1 else A.1.map (·.add ((2 : Int).toNat * 1))) ((((n + 2 : Nat) : Int)).toNat - (2 : Int).toNat) ((((n + 2 : Nat) : Int)).toNat - (2 : Int).toNat) = win g off n := by
  unfold win
  rw [hA, show (((n + 2 : Nat) : Int)).toNat = n + 2 from rfl, show (2 : Int).toNat = 2 from rfl]
  by_cases h : n = 0
  · subst h; rfl
  · rw [if_neg (by omega), if_neg h]; simp [Addr.add_lit]
theorem sl_eq {A : Gh} {n m : Nat} : Value.slice (if A.2 = (((n + 2 : Nat) : Int)).toNat then A.1 else A.1.map (·.add ((((n + 2 : Nat) : Int)).toNat * 1))) (m - (((n + 2 : Nat) : Int)).toNat) (A.2 - (((n + 2 : Nat) : Int)).toNat) = .slice (if A.2 = n + 2 then A.1 else A.1.map (·.add ((n + 2) * 1))) (m - (n + 2)) (A.2 - (n + 2)) := rfl
theorem next_A {A : Gh} {g : Nat} {D R : List (List Int)} {r : List Int} {M : Nat} (hA : A.1 = some ⟨g, (joinF D).length, none⟩) (h2 : M - (joinF D).length ≤ A.2) (hL : M = (joinF D).length + (r.length + 2) + (joinF R).length) : R ≠ [] → (if A.2 = r.length + 2 then A.1 else A.1.map (·.add ((r.length + 2) * 1))) = some ⟨g, (joinF (D ++ [r])).length, none⟩ := fun hR => by
  have h3 : 0 < (joinF R).length := by
    rcases R with _ | ⟨x, R⟩
    · exact absurd rfl hR
    · rw [joinF_cons, List.length_append, rowB_length]; omega
  rw [if_neg (by omega), hA, joinF_append, List.length_append, joinF_cons, List.length_append, rowB_length]
  simp [Addr.add_lit, joinF]
theorem next_0 {A : Gh} {D R : List (List Int)} {r : List Int} {M : Nat} (hL : M = (joinF D).length + (r.length + 2) + (joinF R).length) : some (Value.slice (if A.2 = r.length + 2 then A.1 else A.1.map (·.add ((r.length + 2) * 1))) (M - (joinF D).length - (r.length + 2)) (A.2 - (r.length + 2))) = some (.slice (if A.2 = r.length + 2 then A.1 else A.1.map (·.add ((r.length + 2) * 1))) (M - (joinF (D ++ [r])).length) (A.2 - (r.length + 2))) := by
  rw [joinF_append, List.length_append, joinF_cons, List.length_append, rowB_length]
  congr 2
  simp [joinF]; omega
def PartC (s : Nat) (w' : World) (rows : List (List Int)) (i : Nat × List Value × Nat × Nat × List Value) : Prop := s ≤ i.1 ∧ s ≤ i.2.2.1 ∧ Blk w' i.1 i.2.1 5 ∧ i.2.1.take (joinF rows).length = nums .u8 (joinF rows) ∧ Blk w' i.2.2.1 i.2.2.2.2 24 ∧ i.2.2.2.2.take rows.length = wins i.1 0 rows ∧ rows.length ≤ i.2.2.2.1
theorem part_calls (q : Gh) (rows : List (List Int)) (w : World) (hr : RowC w q (joinF rows)) (hl : ∀ r ∈ rows, r.length ≤ 65535) (hn : (joinF rows).length ≤ 1000000) (hn2 : rows.length ≤ 1000) (hne : rows ≠ []) :
    Calls Try.prog 6 #[.slice q.1 (joinF rows).length q.2] w fun e w' => ∃ i : Nat × List Value × Nat × Nat × List Value, e = .returned (.tuple #[.slice (some ⟨i.2.2.1, 0, none⟩) rows.length i.2.2.2.1, .int .i64 0]) ∧ PartC w.heap.size w' rows i ∧ Below w.heap.size w w' := by
  have hjne : joinF rows ≠ [] := by
    rcases rows with _ | ⟨x, R⟩
    · exact absurd rfl hne
    · intro h
      have := congrArg List.length h
      rw [joinF_cons, List.length_append, rowB_length] at this
      simp at this
  obtain ⟨s0, hs0⟩ : ∃ s0, s0 = w.heap.size := ⟨_, rfl⟩
  refine enter (w0 := w) (hp := [old w]) (env := [(0, .slice q.1 (joinF rows).length q.2)]) Try.func6 rfl 40 rfl (by simp) rfl (HeapOK.start _) ?_
  refine wc_seq ?_
  refine wc_region ?_
  refine wl_q (q_assign rfl rfl) rfl rfl (by decide) ?_
  refine wl_q (q_assign rfl rfl) rfl rfl (by decide) ?_
  refine wl_nil ?_
  refine fq_then ?_
  refine wc_seq ?_
  refine wc_region ?_
  refine wl_q (q_move rfl rfl) rfl rfl (by decide) ?_
  refine wl_callK (ι := (Nat × Nat × List Value)) (fun i => .slice (some ⟨i.1, 0, none⟩) (joinF rows).length i.2.1) (fun i w w' => (joinF rows).length ≤ i.2.1 ∧ s0 ≤ i.1 ∧ Blk w' i.1 i.2.2 5 ∧ i.2.2.take (joinF rows).length = nums .u8 (joinF rows)) rfl rfl rfl (by decide) En9 rfl (fun w1 hw1 => (clone_calls q (joinF rows) w1 (hr.below (hw1.toBelow (by simp))) (by omega) hjne).mono (fun e w' ⟨i, h1, ⟨h2, h3, h4⟩, h6⟩ => ⟨i, ⟨h2, Nat.le_trans (hs0 ▸ ((hw1.toBelow (by simp))).size) h3, h4⟩, h1, h6⟩)) (fun ⟨g, cap, cs⟩ wa_ w_1 _ Hn_ _ hC_ => ?_)
  have hx_ := Hn_.toBelow (by simp)
  have hB := hx_
  obtain ⟨hcap, hgw_, fb_g, htk⟩ := hC_
  have hgw : w.heap.size ≤ g := hs0 ▸ hgw_
  refine wl_q (q_assign rfl rfl) rfl rfl (by decide) ?_
  refine wl_nil ?_
  refine fq_then ?_
  refine wc_seq ?_
  refine wc_region ?_
  refine wl_q (q_assign rfl rfl) rfl rfl (by decide) ?_
  refine wl_nil ?_
  refine fq_then ?_
  refine wc_seq ?_
  refine wc_block ?_
  refine wc_own (E := 24) (sz := 1) ?_
  refine wc_loop (ι := (List (List Int) × List (List Int) × Gh × Gh)) (fun ⟨D, R, A, p⟩ => [(0, .slice A.1 ((joinF rows).length - (joinF D).length) A.2), (3, .int .i64 0), (4, .slice p.1 D.length p.2)]) (fun ⟨D, R, A, p⟩ => [.own 0 24 1 (.slice p.1 D.length p.2) D.length (wins g 0 D), old w_1]) (fun ⟨D, R, A, p⟩ => D ++ R = rows ∧ (joinF rows).length - (joinF D).length ≤ A.2 ∧ (R ≠ [] → A.1 = some ⟨g, (joinF D).length, none⟩)) (fun ⟨D, R, A, p⟩ => R.length) ⟨[], rows, (some ⟨g, 0, none⟩, cap), (none, 0)⟩ ⟨rfl, by simpa [joinF] using hcap, fun _ => rfl⟩ ⟨List.forall_mem_cons.2 ⟨rfl, List.forall_mem_cons.2 ⟨rfl, List.forall_mem_cons.2 ⟨rfl, fun _ h => (by cases h)⟩⟩⟩, List.Sublist.refl _⟩ ?_
  rintro ⟨D, R, A, p⟩ ⟨hDR, hA2, hA1⟩
  dsimp only at hA2 hA1 ⊢
  rcases R with _ | ⟨r, R⟩
  · skip
    rw [List.append_nil] at hDR
    subst hDR
    refine wc_seq ?_
    refine wc_seq ?_
    refine wc_region ?_
    refine wl_q (q_move rfl rfl) rfl rfl (by decide) ?_
    refine wl_q (q_len rfl rfl Try.underlying24) rfl rfl (by decide) ?_
    refine wl_q (OpQ.to (q_bin rfl rfl rfl rfl) (congrArg Value.bool (show decide _ = false by simp))) rfl rfl (by decide) ?_
    refine wl_nil ?_
    refine fq_then ?_
    refine wc_false rfl ?_
    refine wc_exit ?_
    refine fq_then_exit ?_
    refine fq_then_exit ?_
    refine fq_block_hit ?_
    refine fq_then ?_
    refine wc_seq ?_
    refine wc_region ?_
    refine wl_q (q_move rfl rfl) rfl rfl (by decide) ?_
    refine wl_q (q_assign rfl rfl) rfl rfl (by decide) ?_
    refine wl_q (q_assign rfl rfl) rfl rfl (by decide) ?_
    refine wl_nil ?_
    refine fq_then ?_
    refine wc_ret ?_
    refine fq_ret2 rfl rfl rfl (fun w1 H => ?_)
    have hO : w1.ownsRow 0 24 1 (.slice p.1 D.length p.2) D.length (wins g 0 D) := H.get (i := 0) rfl
    rcases hO.2 with ⟨e, e0⟩ | ⟨gr, cap2, cur, e, hg, hh, hn, hm, hs, ht⟩
    · exact absurd (List.eq_nil_of_length_eq_zero e0) hne
    · obtain ⟨p1, p2⟩ := p
      cases e
      refine ⟨⟨g, cs, gr, p2, cur.toList⟩, rfl, ⟨hgw, Nat.le_trans hB.size (own_fresh H rfl), fb_g.below (H.toBelow (by simp)), htk, by simpa [Blk] using hh, by simpa using ht, hn⟩, hB.next (H.toBelow (by simp))⟩
  · skip
    have hrl : r.length ≤ 65535 := hl r (by rw [← hDR]; simp)
    obtain ⟨hj0, hj1, hj2⟩ := join_at D r R hrl
    have hJL := join_len D r R
    have hDl : D.length ≤ 1000 := by have := congrArg List.length hDR; rw [List.length_append] at this; omega
    rw [hDR] at hj0 hj1 hj2 hJL
    have hA := hA1 (by simp)
    have hc0 : w_1.cell? ((⟨g, (joinF D).length, none⟩ : Addr).add ((0 : Int).toNat * 1)) = some (.int .u8 ((r.length : Int) % 256)) := by rw [Addr.add_lit]; exact blk_cell fb_g htk hj0
    have hc1 : w_1.cell? ((⟨g, (joinF D).length, none⟩ : Addr).add ((1 : Int).toNat * 1)) = some (.int .u8 ((r.length : Int) / 256)) := by rw [Addr.add_lit]; exact blk_cell fb_g htk hj1
    refine wc_seq ?_
    refine wc_seq ?_
    refine wc_region ?_
    refine wl_q (q_move rfl rfl) rfl rfl (by decide) ?_
    refine wl_q (q_len rfl rfl Try.underlying24) rfl rfl (by decide) ?_
    refine wl_q (OpQ.to (q_bin rfl rfl rfl rfl) (congrArg Value.bool (show decide _ = true by rw [decide_eq_true_eq]; omega))) rfl rfl (by decide) ?_
    refine wl_nil ?_
    refine fq_then ?_
    refine wc_true rfl ?_
    refine wc_skip ?_
    refine fq_then ?_
    refine wc_block ?_
    refine wc_seq ?_
    refine wc_seq ?_
    refine wc_region ?_
    refine wl_q (q_move rfl rfl) rfl rfl (by decide) ?_
    refine wl_q (q_len rfl rfl Try.underlying24) rfl rfl (by decide) ?_
    refine wl_q (OpQ.to (q_bin rfl rfl rfl rfl) (congrArg Value.bool (show decide _ = false by rw [decide_eq_false_iff_not]; omega))) rfl rfl (by decide) ?_
    refine wl_nil ?_
    refine fq_then ?_
    refine wc_false rfl ?_
    refine wc_skip ?_
    refine fq_then ?_
    refine wc_seq ?_
    refine wc_draw 12 Fol (by kernel_rfl) (Chain.yield (q_move rfl rfl) rfl rfl (Chain.yield (q_indexO rfl rfl hA rfl Try.underlying24 Sz5 (by decide) (by omega)) rfl rfl (Chain.yield (q_load rfl rfl Mn5 (reads_old (by simp) (cell_zero hc0))) rfl rfl (Chain.yield (q_conv rfl rfl Try.underlying5 Try.underlying3) rfl rfl (Chain.yield (q_bin rfl rfl rfl rfl) rfl rfl (Chain.yield (q_move rfl rfl) rfl rfl (Chain.yield (q_indexO rfl rfl hA rfl Try.underlying24 Sz5 (by decide) (by omega)) rfl rfl (Chain.yield (q_load rfl rfl Mn5 (reads_old (by simp) (cell_zero hc1))) rfl rfl (Chain.yield (q_conv rfl rfl Try.underlying5 Try.underlying3) rfl rfl (Chain.yield (q_shl rfl rfl rfl (by decide)) rfl rfl (Chain.yield (OpQ.to (q_bin rfl rfl rfl rfl) (congrArg (Value.int .i64) (head_eq hrl))) rfl rfl (Chain.yield (q_assign rfl rfl) rfl rfl (Chain.nil _))))))))))))) ?_
    refine wl_nil ?_
    refine fq_then ?_
    refine wc_seq ?_
    refine wc_seq ?_
    refine wc_region ?_
    refine wl_q (q_move rfl rfl) rfl rfl (by decide) ?_
    refine wl_q (q_move rfl rfl) rfl rfl (by decide) ?_
    refine wl_q (q_len rfl rfl Try.underlying24) rfl rfl (by decide) ?_
    refine wl_q (OpQ.to (q_bin rfl rfl rfl rfl) (congrArg Value.bool (show decide _ = false by rw [decide_eq_false_iff_not]; omega))) rfl rfl (by decide) ?_
    refine wl_nil ?_
    refine fq_then ?_
    refine wc_false rfl ?_
    refine wc_skip ?_
    refine fq_then ?_
    refine wc_seq ?_
    refine wc_region ?_
    refine wl_q (q_move rfl rfl) rfl rfl (by decide) ?_
    refine wl_q (q_move rfl rfl) rfl rfl (by decide) ?_
    refine wl_q (q_move rfl rfl) rfl rfl (by decide) ?_
    refine wl_q (q_move rfl rfl) rfl rfl (by decide) ?_
    refine wl_q (OpQ.to (q_slice_lhm rfl rfl rfl rfl rfl Try.underlying24 Sz5 (by decide) (by omega) (by omega) (by omega)) (win_eq hA)) rfl rfl (by decide) ?_
    refine wl_buildSlice rfl rfl rfl (by decide) rfl Try.underlying22 (built_one Sz24 (by decide) Zs24 (by decide) rfl rfl) (fun b2 => ?_)
    refine wl_append (i := 1) (m := 1) (news := [win g (joinF D).length r.length]) rfl rfl rfl (by decide) Try.underlying22 Ap24 (by decide) rfl rfl rfl (readsAll (i := 0) rfl) rfl (by simp [win, Value.oneCell']) (by unfold maxLen; omega) (by omega) (fun v35 _ => ?_)
    refine wl_ownForm (i := 1) rfl (fun A35 c35 e35 f35 => ?_)
    subst e35
    refine wl_q (q_assign rfl rfl) rfl rfl (by decide) ?_
    refine wl_nil ?_
    refine fq_then ?_
    refine wc_region ?_
    refine wl_q (q_move rfl rfl) rfl rfl (by decide) ?_
    refine wl_q (q_move rfl rfl) rfl rfl (by decide) ?_
    refine wl_q (OpQ.to (q_slice_lo rfl rfl rfl Try.underlying24 Sz5 (by omega) (by omega)) (sl_eq)) rfl rfl (by decide) ?_
    refine wl_q (q_assign rfl rfl) rfl rfl (by decide) ?_
    refine wl_nil ?_
    refine fq_block ?_
    refine fq_eq (hp' := [.blk b2 [win g (joinF D).length r.length] 24, .own 0 24 1 (.slice A35 (D ++ [r]).length c35) (D ++ [r]).length (wins g 0 (D ++ [r])), old w_1]) (by rw [wins_snoc, List.length_append, Nat.zero_add]; rfl) ?_
    refine fq_next ⟨D ++ [r], R, (if A.2 = r.length + 2 then A.1 else A.1.map (·.add ((r.length + 2) * 1)), A.2 - (r.length + 2)), (A35, c35)⟩ ⟨by rw [← hDR]; simp, by rw [joinF_append, List.length_append, joinF_cons, List.length_append, rowB_length]; show (joinF rows).length - ((joinF D).length + (r.length + 2 + 0)) ≤ A.2 - (r.length + 2); omega, next_A hA hA2 hJL⟩ (Nat.lt_succ_self _) ⟨List.forall_mem_cons.2 ⟨(next_0 hJL), List.forall_mem_cons.2 ⟨rfl, List.forall_mem_cons.2 ⟨(show some (Value.slice A35 (D.length + 1) c35) = some (.slice A35 (D ++ [r]).length c35) by rw [List.length_append]; rfl), fun _ h => (by cases h)⟩⟩⟩, List.Sublist.cons _ (List.Sublist.cons_cons _ (List.Sublist.cons_cons _ (List.Sublist.refl [])))⟩
end Go.Proofs.Ytdmefmeeckjcpaa.SF
end
