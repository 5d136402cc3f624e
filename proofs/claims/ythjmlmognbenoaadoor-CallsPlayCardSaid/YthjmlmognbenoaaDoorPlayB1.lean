/- Texts of mine, put together (no statement stands here). -/
import Derived.Test.YthjmlmognbenoaaDoorProg
import Derived.Lib.BufferMore
import Derived.Deep.LoopGhost
import Derived.RangeFuncBox
import Derived.Deep.RegionHeld
import Derived.WalkMore
import Derived.Below
import Derived.Deep.Draws
import Derived.Deep.AppendLies
import Derived.Maps.AppendAt
import Derived.OwnWalk
import Derived.Laws.BytesArg
import Derived.Laws.MakeOwn
import Derived.Laws.OwnMore
import Derived.Deep.OwnRows
import Derived.Tactics
import Derived.Lib.ConvBytes
import Derived.Laws.Slices
import Derived.WalkKit
import Derived.KernelRfl
import Derived.RowKit3
import Derived.Deep.QuietTactic
import Derived.BigQuiet
import Derived.WideLaws
import Derived.Deep.DeepCutAuto
import Derived.Deep.CutBlock
import Derived.Deep.RegionHeld3
import Derived.Laws.Rows
import Derived.Lib.AppendStr
import Derived.ArgAppend
import Derived.Laws.IdiomCopy
import Derived.OrdersHeld
import Derived.Laws.BitsLemmas
import Derived.RowKit
import Derived.Test.YthjmlmognbenoaaDoorWWords
import Derived.Test.YthjmlmognbenoaaDoorWLast
import Derived.Test.YthjmlmognbenoaaDoorWTab
import Derived.Test.YthjmlmognbenoaaDoorWFour
import Derived.Test.YthjmlmognbenoaaDoorWQPut
import Derived.Test.YthjmlmognbenoaaDoorWApart
import Derived.Test.YthjmlmognbenoaaDoorWArr
import Derived.Test.YthjmlmognbenoaaDoorWZeros
import Derived.Test.YthjmlmognbenoaaDoorWFoot
import Derived.Test.YthjmlmognbenoaaDoorWKept
import Derived.Test.YthjmlmognbenoaaDoorWShare
import Derived.Test.YthjmlmognbenoaaDoorWN
import Derived.Test.YthjmlmognbenoaaDoorWFootNe
import Derived.Test.YthjmlmognbenoaaDoorWAt
import Derived.Test.YthjmlmognbenoaaDoorWEqStruct
import Derived.Test.YthjmlmognbenoaaDoorWRepsOne
import Derived.Test.YthjmlmognbenoaaDoorWInv
import Derived.Test.YthjmlmognbenoaaDoorWInvWords
import Derived.Test.YthjmlmognbenoaaDoorWGuard
import Derived.Test.YthjmlmognbenoaaDoorWNEv
import Derived.Test.YthjmlmognbenoaaDoorWMore
import Derived.Laws.CopyOwn
import Derived.RangeFuncNested
import Derived.RangeFuncBound
import Derived.RangeFuncCalls
import Derived.RangeFuncLeaves
import Derived.Shelf.Abstract
import Derived.Shelf.RegionOpen
import Derived.OwnWalkIn
import Derived.TacticsInMore
import Derived.LoopNIn
import Derived.LoopIn
import Derived.Sort.CutIn
section
-- Written by myprint.py: the kit's print.py over this seat's translation, with contracts of my own.
namespace Go.Proofs.YthjmlmognbenoaaDoor.PAll
open Go.RowKit Go.Proofs.YthjmlmognbenoaaDoorW.PrintWords Go.Proofs.YthjmlmognbenoaaDoorW.PrintLast Go.Proofs.YthjmlmognbenoaaDoorW.PrintMore
attribute [local go_sem] max2_int min2_int max_two min_two max_three min_three max_four min_four   -- for this text's walks alone
set_option linter.unusedVariables false
set_option linter.unusedSimpArgs false



def errW : Option Int → Value
  | none => .nilIface
  | some c => .iface 0 (.int .i64 c)
theorem errW_none : errW none = .nilIface := rfl
theorem errW_some (c : Int) : errW (some c) = .iface 0 (.int .i64 c) := rfl

theorem info23 : (Tryd.prog.info? 23).map (fun i => (i.zero, i.size, i.bytes)) = some (some (.int .u32 0), 1, 4) := by kernel_rfl
-- the values' own types

end Go.Proofs.YthjmlmognbenoaaDoor.PAll
end

/- The walk of (Calls).own, by hand (no statement stands here). -/
section
namespace Go.Proofs.YthjmlmognbenoaaDoor.PAll
open Go.RowKit Go.Proofs.YthjmlmognbenoaaDoorW.PrintWords Go.Proofs.YthjmlmognbenoaaDoorW.PrintLast Go.Proofs.YthjmlmognbenoaaDoorW.PrintMore
set_option linter.unusedVariables false
set_option linter.unusedSimpArgs false
theorem own_i23 : (Tryd.prog.info? 23).map (fun i => (i.zero, i.size, i.bytes)) = some (some (.int .u32 0), 1, 4) := by kernel_rfl
theorem own_sz : (Tryd.prog.info? 23).map (·.size) = some 1 := by kernel_rfl
theorem own_row (W : World) (base N : Nat) (l : List Int) (hb : base ≤ N) (hm : l.length ≤ 1000000) (h : W.heap[N]? = some (.cells (nums .u32 l).toArray 23 (0, 0))) : W.ownsRow base 23 1 (.slice (some ⟨N, 0, none⟩) l.length l.length) l.length (nums .u32 l) := by
  have hl : (nums .u32 l).length = l.length := by simp [nums]
  exact ⟨by rw [hl, Nat.mul_one], .inr ⟨N, l.length, (nums .u32 l).toArray, rfl, hb, h, Nat.le_refl _, by simp only [maxLen]; omega, by simp [hl], by rw [Nat.mul_one, List.take_of_length_le (by simp [hl])]⟩⟩
theorem own_splice (l : List Int) : splice (nums .u32 (List.replicate l.length 0)) 0 (nums .u32 l) = nums .u32 l := by
  unfold splice
  rw [List.take_zero, List.nil_append, List.drop_of_length_le (by simp [nums]), List.append_nil]
set_option maxRecDepth 100000 in
set_option maxHeartbeats 2000000 in
theorem own_calls (a0 : Int) (A0 : Option Addr) (c0 : Nat) (l0 : List Int) (w : World) (hr0 : Kd.C (Kd.int .u32) w A0 l0.length l0) (hl : l0.length ≤ 1000000) :
    Calls Tryd.prog 22 #[.agg #[.int .u32 a0, .slice A0 l0.length c0]] w fun e w' => ∃ (A : Option Addr) (c : Nat), e = .returned (.agg #[.int .u32 a0, .slice A l0.length c]) ∧ Kd.R (Kd.int .u32) 23 w' w.heap.size (fun _ => True) (.slice A l0.length c) l0 ∧ Below w.heap.size w w' := by
  have hu27 := Tryd.underlying27
  have hmk := print_make (P := Tryd.prog) 25 23 .u32 4 Tryd.underlying25 own_i23 (by decide) l0.length (by omega)
  have hmc : (madeCells #[Value.int .u32 0] l0.length) = (nums .u32 (List.replicate l0.length 0)).toArray := by
    apply Array.ext
    · simp [madeCells, nums]
    · intro i h1 h2
      simp [nums, madeCells, Nat.mod_one]
  simp only [hmc] at hmk
  clear hmc
  have HR0 := Aside0.mk hr0
  have HL := Aside0.mk hl
  clear hr0 hl
  go_enter Tryd.func22, Tryd.ntmps22
  go_upto_region 1 with (fail)
  have hB2 : ((w.alloc (.cells #[.int .u32 a0, .slice A0 l0.length c0] 27)).alloc (.cells #[.int .u32 0, .slice none 0 0] 27)).heap[w.heap.size]? = some (.cells #[.int .u32 a0, .slice A0 l0.length c0] 27 (0, 0)) := blk_alloc (blk_new w _) _
  have hB4 : ((w.alloc (.cells #[.int .u32 a0, .slice A0 l0.length c0] 27)).alloc (.cells #[.int .u32 0, .slice none 0 0] 27)).heap[w.heap.size + 1]? = some (.cells #[.int .u32 0, .slice none 0 0] 27 (0, 0)) := by
    have := blk_new (w.alloc (.cells #[.int .u32 a0, .slice A0 l0.length c0] 27)) (.cells #[.int .u32 0, .slice none 0 0] 27)
    rwa [World.size_alloc] at this
  have hbl : Below w.heap.size w ((w.alloc (.cells #[.int .u32 a0, .slice A0 l0.length c0] 27)).alloc (.cells #[.int .u32 0, .slice none 0 0] 27)) := below_alloc (below_alloc (Below.refl _ _) _) _
  generalize hW : (w.alloc (.cells #[.int .u32 a0, .slice A0 l0.length c0] 27)).alloc (.cells #[.int .u32 0, .slice none 0 0] 27) = W at hB2 hB4 hbl ⊢
  clear hW
  obtain ⟨G, hG⟩ : ∃ G, G = w.heap.size := ⟨_, rfl⟩
  have hG2 : w.heap.size + 1 = G + 1 := by rw [hG]
  rw [hG2] at hB4
  rw [← hG] at hB2
  have HG := Aside0.mk hG
  have e1 := (blk_cell hB2 1).trans (rfl : _ = some (Value.slice A0 l0.length c0))
  simp only [← hG, hG2]
  have e2 := fun o : Obj => (blk_cell (blk_alloc hB2 o) 1).trans (rfl : _ = some (Value.slice A0 l0.length c0))
  have HBG := Aside0.mk hB2
  have HBH := Aside0.mk hB4
  have HBW := Aside0.mk hbl
  have hrow := blk_new W (.cells (nums .u32 (List.replicate l0.length 0)).toArray 23)
  have HROW := Aside0.mk hrow
  have hsrc : ∀ (W' : World), Below w.heap.size w W' → 0 < (nums .u32 l0).length → ∃ ad, A0 = some ad ∧ ∀ j v, (nums .u32 l0)[j]? = some v → W'.cell? (ad.add j) = some v := fun W' hb hp => by
    have hpl : 0 < l0.length := by simpa [nums] using hp
    obtain ⟨ad, e, _⟩ := Kd.at_int HR0.out 0 (by omega) (by omega)
    refine ⟨ad, e, fun j v hv => ?_⟩
    simp only [nums, List.getElem?_map, Option.map_eq_some_iff] at hv
    obtain ⟨x, hx, rfl⟩ := hv
    have hj : j < l0.length := (List.getElem?_eq_some_iff.1 hx).1
    obtain ⟨ad', e', hc⟩ := Kd.at_int HR0.out (j : Int) (by omega) (by omega)
    rw [e] at e'
    cases e'
    rw [Int.toNat_natCast] at hc
    have hr : rd l0 (j : Int) = x := by
      unfold rd
      rw [Int.toNat_natCast, List.getD_eq_getElem?_getD, hx, Option.getD_some]
    rw [hr] at hc
    exact (hb.cell (World.block_lt_of_cell? w _ hc)).trans hc
  have HSRC := Aside0.mk hsrc
  clear hG hG2 hB2 hB4 hbl hrow hsrc
  go_wp2_with (first | ((with_reducible refine gate_builtin (b := .copy) (xs := #[.tmp 8, .tmp 10]) rfl ?_); refine wpList_copy_splice rfl (.tmp 8) (.tmp 10) 25 25 rfl 23 Tryd.underlying25 own_sz (some ⟨W.heap.size, 0, none⟩) A0 l0.length l0.length l0.length c0 rfl rfl W.heap.size 0 (nums .u32 (List.replicate l0.length 0)) 23 HROW.out (nums .u32 l0) (by simp [nums]) (fun hp => ⟨rfl, HSRC.out _ (below_alloc HBW.out _) hp⟩) (by simp [nums]) (by intro v hv; simp only [nums, List.mem_map] at hv; obtain ⟨x, _, rfl⟩ := hv; rfl) W.heap.size W (below_alloc (Below.refl _ _) _) (Nat.le_refl _) ?_; intro w2 hg2 hb2; obtain ⟨N, hN⟩ : ∃ N, N = W.heap.size := ⟨_, rfl⟩; have hgr := hg2.out; rw [own_splice l0, ← hN] at hgr; have HGR := Aside0.mk hgr; have HN := Aside0.mk hN; have HBG2 := Aside0.mk (blk_below HBG.out hb2); have HBH2 := Aside0.mk (blk_below HBH.out hb2); have HBW2 := Aside0.mk (below_step HBW.out hb2); clear hg2 hb2 hgr e1 e2; rw [← hN]; clear hN; have k1 := (blk_cell HBG2.out 1).trans (rfl : _ = some (Value.slice A0 l0.length c0)); have z1 := blk_frozen HBG2.out 1; have hG3 := blk_put HBG2.out 1 (.slice (some ⟨N, 0, none⟩) l0.length l0.length) (cs' := #[.int .u32 a0, .slice (some ⟨N, 0, none⟩) l0.length l0.length]) rfl; have hH3 := blk_far HBH2.out (p := ⟨G, 1, none⟩) (by simp) (.slice (some ⟨N, 0, none⟩) l0.length l0.length); have k2 := (blk_cell hG3 0).trans (rfl : _ = some (Value.int .u32 a0)); have k3 := (blk_cell hG3 1).trans (rfl : _ = some (Value.slice (some ⟨N, 0, none⟩) l0.length l0.length)); have h0 := (blk_cell hH3 0).trans (rfl : _ = some (Value.int .u32 0)); have h1 := (blk_cell hH3 1).trans (rfl : _ = some (Value.slice none 0 0)); have y0 := blk_frozen hH3 0; have y1 := blk_frozen hH3 1; have HH3 := Aside0.mk hH3; clear hG3 hH3))
  have b1 := blk_put HH3.out 0 (.int .u32 a0) (cs' := #[.int .u32 a0, .slice none 0 0]) rfl
  have b2 := blk_put b1 1 (.slice (some ⟨N, 0, none⟩) l0.length l0.length) (cs' := #[.int .u32 a0, .slice (some ⟨N, 0, none⟩) l0.length l0.length]) rfl
  have hsz := blk_lt HBH.out
  have hNG : N ≠ G := by have := HN.out; omega
  have hNH : N ≠ G + 1 := by have := HN.out; omega
  have r1 := blk_far HGR.out (p := ⟨G, 1, none⟩) hNG (.slice (some ⟨N, 0, none⟩) l0.length l0.length)
  have r2 := blk_far r1 (p := ⟨G + 1, 0, none⟩) hNH (.int .u32 a0)
  have r3 := blk_far r2 (p := ⟨G + 1, 1, none⟩) hNH (.slice (some ⟨N, 0, none⟩) l0.length l0.length)
  have hg : w.heap.size ≤ G := by rw [HG.out]; exact Nat.le_refl _
  have hB := below_set (below_set (below_set (j := 1) (v := .slice (some ⟨N, 0, none⟩) l0.length l0.length) HBW2.out hg) (j := 0) (v := .int .u32 a0) (Nat.le_succ_of_le hg)) (j := 1) (v := .slice (some ⟨N, 0, none⟩) l0.length l0.length) (Nat.le_succ_of_le hg)
  generalize ((w2.setCell ⟨G, 1, none⟩ (.slice (some ⟨N, 0, none⟩) l0.length l0.length)).setCell ⟨G + 1, 0, none⟩ (.int .u32 a0)).setCell ⟨G + 1, 1, none⟩ (.slice (some ⟨N, 0, none⟩) l0.length l0.length) = W5 at b2 r3 hB ⊢
  refine bodyPost_ret (results_cell_row rfl _ _ (G + 1) 27 #[.int .u32 a0, .slice (some ⟨N, 0, none⟩) l0.length l0.length] (0, 0) _ rfl b2 Tryd.underlying27 rfl (by kernel_rfl)) rfl ?_
  refine ⟨some ⟨N, 0, none⟩, l0.length, rfl, ?_, hB⟩
  exact Kd.R_of_own (enc := Value.int .u32) (h1 := fun _ => rfl) (own_row W5 w.heap.size N l0 (by have := HN.out; omega) (by have := HL.out; omega) r3) (fun _ _ => trivial)
end Go.Proofs.YthjmlmognbenoaaDoor.PAll
end

section
-- Written by myprint.py: the kit's print.py over this seat's translation, with contracts of my own.
namespace Go.Proofs.YthjmlmognbenoaaDoor.PAll
open Go.RowKit Go.Proofs.YthjmlmognbenoaaDoorW.PrintWords Go.Proofs.YthjmlmognbenoaaDoorW.PrintLast Go.Proofs.YthjmlmognbenoaaDoorW.PrintMore
attribute [local go_sem] max2_int min2_int max_two min_two max_three min_three max_four min_four   -- for this text's walks alone
set_option linter.unusedVariables false
set_option linter.unusedSimpArgs false

/-! ### calls_bit: function 21 -/
def calls_bit.f (a0 : Int) (a1 : Int) : Option (Int) := if a0 < 0 then (some 0) else (if a0 ≥ (mn a1 32) then (some 0) else (if 0 ≤ a0 then (some (shl .u32 1 a0)) else (none)))
set_option maxHeartbeats 8000000 in
set_option maxRecDepth 100000 in
theorem calls_bit.calls (a0 : Int) (a1 : Int) (r : Int) (w : World) (h : calls_bit.f a0 a1 = some r) :
    Calls Tryd.prog 21 #[.int .i64 a0, .int .i64 a1] w fun e w' => e = .returned (.int .u32 r) ∧ Below w.heap.size w w' := by
  have HB := Aside0.mk (Below.refl w.heap.size w)
  have H : (if a0 < 0 then (some 0) else (if a0 ≥ (mn a1 32) then (some 0) else (if 0 ≤ a0 then (some (shl .u32 1 a0)) else (none)))) = some r := h
  clear h
  by_cases c3 : a0 < 0
  · rw [if_pos c3] at H
    have c3b0 : decide (a0 < 0) = true := decide_eq_true c3
    clear c3
    obtain rfl := Option.some.inj H
    go_enter Tryd.func21, Tryd.ntmps21
    go_wp2
    go_ret
    exact ⟨by first | rfl | (simp [errW_none, errW_some] <;> rfl) | (simp [*, errW_none, errW_some] <;> rfl), by repeat (first | (with_reducible first | exact HB.out | apply below_alloc | apply pw_below_drewN | apply below_drew1) | exact HB.out)⟩
  · rw [if_neg c3] at H
    have c3b0 : decide (a0 < 0) = false := decide_eq_false c3
    clear c3
    obtain ⟨ji4, hji4⟩ : ∃ j_ : Int, (mn a1 32) = j_ := ⟨_, rfl⟩
    replace H : (if a0 ≥ (ji4) then (some 0) else (if 0 ≤ a0 then (some (shl .u32 1 a0)) else (none))) = some r := by first | (rw [hji4] at H; exact H) | (simp only [hji4] at H ⊢; exact H)
    (try (have hji4h : ji4 ≤ 32 := by (rw [← hji4]; unfold mn; (repeat' split) <;> omega)))
    (try (have hji4g : ji4 ≤ 64 := by omega))
    have hji4_ : (if 32 < a1 then 32 else a1) = ji4 := hji4
    by_cases c5 : a0 ≥ (ji4)
    · rw [if_pos c5] at H
      have c5b0 : decide ((ji4) ≤ a0) = true := decide_eq_true c5
      clear c5
      obtain rfl := Option.some.inj H
      go_enter Tryd.func21, Tryd.ntmps21
      go_wp2
      go_ret
      exact ⟨by first | rfl | (simp [errW_none, errW_some] <;> rfl) | (simp only [← hji4]; first | rfl | (simp [errW_none, errW_some] <;> rfl)) | (simp [*, errW_none, errW_some] <;> rfl), by repeat (first | (with_reducible first | exact HB.out | apply below_alloc | apply pw_below_drewN | apply below_drew1) | exact HB.out)⟩
    · rw [if_neg c5] at H
      have c5b0 : decide ((ji4) ≤ a0) = false := decide_eq_false c5
      clear c5
      by_cases c6 : 0 ≤ a0
      · rw [if_pos c6] at H
        have c6b0 := eq_true c6
        have c6b1 : decide (0 ≤ a0) = true := decide_eq_true c6
        clear c6
        obtain ⟨ji7, hji7⟩ : ∃ j_ : Int, (shl .u32 1 a0) = j_ := ⟨_, rfl⟩
        replace H : (some ji7) = some r := by first | (rw [hji7] at H; exact H) | (simp only [hji7] at H ⊢; exact H)
        have hji7_ : (IntKind.u32.wrap (1 * 2 ^ min a0.toNat 32)) = ji7 := hji7
        have hji7z : a0 ≤ 32 → (IntKind.u32.wrap (1 * 2 ^ a0.toNat)) = ji7 := shl_small hji7
        have hji7u : (IntKind.u32.wrap (2 ^ min a0.toNat 32)) = ji7 := by have h_ := hji7_; rw [Int.one_mul] at h_; exact h_
        have hji7v : a0 ≤ 32 → (IntKind.u32.wrap (2 ^ a0.toNat)) = ji7 := fun hle_ => by have h_ := hji7z hle_; rw [Int.one_mul] at h_; exact h_
        obtain rfl := Option.some.inj H
        go_enter Tryd.func21, Tryd.ntmps21
        go_wp2
        go_ret
        exact ⟨by first | rfl | (simp [errW_none, errW_some] <;> rfl) | (simp only [← hji4, ← hji7]; first | rfl | (simp [errW_none, errW_some] <;> rfl)) | (simp [*, errW_none, errW_some] <;> rfl), by repeat (first | (with_reducible first | exact HB.out | apply below_alloc | apply pw_below_drewN | apply below_drew1) | exact HB.out)⟩
      · rw [if_neg c6] at H
        exact absurd H (by simp)

end Go.Proofs.YthjmlmognbenoaaDoor.PAll
end

/- The walk of (Calls).Hall, by hand (no statement stands here). -/
section
namespace Go.Proofs.YthjmlmognbenoaaDoor.PAll
open Go.RowKit Go.Proofs.YthjmlmognbenoaaDoorW.PrintWords Go.Proofs.YthjmlmognbenoaaDoorW.PrintLast Go.Proofs.YthjmlmognbenoaaDoorW.PrintMore
set_option linter.unusedVariables false
set_option linter.unusedSimpArgs false
/-- A variable of the type Calls, and the result's, made one behind the other. -/
theorem two_boxes (w : World) (a0 : Int) (A0 : Option Addr) (n c0 : Nat) : ((w.alloc (.cells #[.int .u32 a0, .slice A0 n c0] 27)).alloc (.cells #[.int .u32 0, .slice none 0 0] 27)).heap[w.heap.size]? = some (.cells #[.int .u32 a0, .slice A0 n c0] 27 (0, 0)) ∧ ((w.alloc (.cells #[.int .u32 a0, .slice A0 n c0] 27)).alloc (.cells #[.int .u32 0, .slice none 0 0] 27)).heap[w.heap.size + 1]? = some (.cells #[.int .u32 0, .slice none 0 0] 27 (0, 0)) ∧ Below w.heap.size w ((w.alloc (.cells #[.int .u32 a0, .slice A0 n c0] 27)).alloc (.cells #[.int .u32 0, .slice none 0 0] 27)) := by
  refine ⟨blk_alloc (blk_new w _) _, ?_, below_alloc (below_alloc (Below.refl _ _) _) _⟩
  have := blk_new (w.alloc (.cells #[.int .u32 a0, .slice A0 n c0] 27)) (.cells #[.int .u32 0, .slice none 0 0] 27)
  rwa [World.size_alloc] at this
set_option maxRecDepth 100000 in
set_option maxHeartbeats 2000000 in
theorem Hall_calls (h fl fs bt : Int) (A0 : Option Addr) (c0 : Nat) (l0 : List Int) (w : World) (hr0 : Kd.C (Kd.int .u32) w A0 l0.length l0) (hl : l0.length ≤ 1000000) (hb : calls_bit.f fl fs = some bt) :
    Calls Tryd.prog 11 #[.agg #[.int .u32 h, .slice A0 l0.length c0], .int .i64 fl, .int .i64 fs] w fun e w' => ∃ (A : Option Addr) (c : Nat), e = .returned (.tuple #[.agg #[.int .u32 (Go.bits .or .u32 h bt), .slice A l0.length c], .bool (bt != 0)]) ∧ Kd.R (Kd.int .u32) 23 w' w.heap.size (fun _ => True) (.slice A l0.length c) l0 ∧ Below w.heap.size w w' := by
  have hu27 := Tryd.underlying27
  have HR0 := Aside0.mk hr0
  have HL := Aside0.mk hl
  have HBT := Aside0.mk hb
  clear hr0 hl hb
  go_enter Tryd.func11, Tryd.ntmps11
  go_upto_region 1 with (fail)
  obtain ⟨hB2, hB4, hbl⟩ := two_boxes w h A0 l0.length c0
  generalize hW : (w.alloc (.cells #[.int .u32 h, .slice A0 l0.length c0] 27)).alloc (.cells #[.int .u32 0, .slice none 0 0] 27) = W at hB2 hB4 hbl ⊢
  clear hW
  obtain ⟨G, hG⟩ : ∃ G, G = w.heap.size := ⟨_, rfl⟩
  have hG2 : w.heap.size + 1 = G + 1 := by rw [hG]
  rw [hG2] at hB4
  rw [← hG] at hB2
  have HG := Aside0.mk hG
  simp only [← hG, hG2]
  have HBG := Aside0.mk hB2
  have HBH := Aside0.mk hB4
  have HBW := Aside0.mk hbl
  have k0 := (blk_cell hB2 0).trans (rfl : _ = some (Value.int .u32 h))
  have k1 := (blk_cell hB2 1).trans (rfl : _ = some (Value.slice A0 l0.length c0))
  clear hG hG2 hB2 hB4 hbl
  go_wp2_with (first
    | (go_at_call 21; refine (calls_bit.calls fl fs bt _ HBT.out).mono ?_; rintro e w1 ⟨rfl, hb1⟩; have HBW1 := Aside0.mk (below_step HBW.out hb1); have HBG1 := Aside0.mk (blk_below HBG.out hb1); have HBH1 := Aside0.mk (blk_below HBH.out hb1); clear hb1 k0 k1; have k0 := (blk_cell HBG1.out 0).trans (rfl : _ = some (Value.int .u32 h)); have k1 := (blk_cell HBG1.out 1).trans (rfl : _ = some (Value.slice A0 l0.length c0)))
    | (go_at_call 22; refine (own_calls h A0 c0 l0 _ (Kd.C_below HR0.out HBW1.out) HL.out).mono ?_; rintro e w2 ⟨A2, c2, rfl, hR2, hb2⟩; have HR2 := Aside0.mk hR2; have HSZ := Aside0.mk (below_size HBW1.out); have HBW2 := Aside0.mk (below_step HBW1.out hb2); have HBG2 := Aside0.mk (blk_below HBG1.out hb2); have HBH2 := Aside0.mk (blk_below HBH1.out hb2); clear hR2 hb2 k0 k1; have k0 := (blk_cell HBG2.out 0).trans (rfl : _ = some (Value.int .u32 h)); have k1 := (blk_cell HBG2.out 1).trans (rfl : _ = some (Value.slice A0 l0.length c0)); have z0 := blk_frozen HBG2.out 0; have z1 := blk_frozen HBG2.out 1; have b1 := blk_put HBG2.out 0 (.int .u32 h) (cs' := #[.int .u32 h, .slice A0 l0.length c0]) rfl; have b2 := blk_put b1 1 (.slice A2 l0.length c2) (cs' := #[.int .u32 h, .slice A2 l0.length c2]) rfl; have m0 := (blk_cell b2 0).trans (rfl : _ = some (Value.int .u32 h)); have y0 := blk_frozen b2 0; have b3 := blk_put b2 0 (.int .u32 (Go.bits .or .u32 h bt)) (cs' := #[.int .u32 (Go.bits .or .u32 h bt), .slice A2 l0.length c2]) rfl; have n0 := (blk_cell b3 0).trans (rfl : _ = some (Value.int .u32 (Go.bits .or .u32 h bt))); have n1 := (blk_cell b3 1).trans (rfl : _ = some (Value.slice A2 l0.length c2)); have d1 := blk_far HBH2.out (p := ⟨G, 0, none⟩) (by simp) (.int .u32 h); have d2 := blk_far d1 (p := ⟨G, 1, none⟩) (by simp) (.slice A2 l0.length c2); have d3 := blk_far d2 (p := ⟨G, 0, none⟩) (by simp) (.int .u32 (Go.bits .or .u32 h bt)); have h0 := (blk_cell d3 0).trans (rfl : _ = some (Value.int .u32 0)); have h1 := (blk_cell d3 1).trans (rfl : _ = some (Value.slice none 0 0)); have x0 := blk_frozen d3 0; have x1 := blk_frozen d3 1; have HB1 := Aside0.mk b1; have HB2 := Aside0.mk b2; have HB3 := Aside0.mk b3; have HD3 := Aside0.mk d3; clear b1 b2 b3 d1 d2 d3))
  have hE : ∀ q, q ∈ 23 :: (Kd.int IntKind.u32).E → q ≠ 27 := by intro q hq; have e : (Kd.int IntKind.u32).E = [] := rfl; rw [e] at hq; simp at hq; omega
  have hg : w.heap.size ≤ G := by rw [HG.out]; exact Nat.le_refl _
  have hg1 : w.heap.size ≤ G + 1 := Nat.le_succ_of_le hg
  have r0 := Kd.R_lower HR2.out HSZ.out
  have r1 := Kd.R_set r0 HBG2.out hE 0 (.int .u32 h)
  have r2 := Kd.R_set r1 HB1.out hE 1 (.slice A2 l0.length c2)
  have r3 := Kd.R_set r2 HB2.out hE 0 (.int .u32 (Go.bits .or .u32 h bt))
  have r4 := Kd.R_set r3 HD3.out hE 0 (.int .u32 (Go.bits .or .u32 h bt))
  have f1 := blk_put HD3.out 0 (.int .u32 (Go.bits .or .u32 h bt)) (cs' := #[.int .u32 (Go.bits .or .u32 h bt), .slice none 0 0]) rfl
  have r5 := Kd.R_set r4 f1 hE 1 (.slice A2 l0.length c2)
  have f2 := blk_put f1 1 (.slice A2 l0.length c2) (cs' := #[.int .u32 (Go.bits .or .u32 h bt), .slice A2 l0.length c2]) rfl
  have hB := below_set (j := 1) (v := .slice A2 l0.length c2) (below_set (j := 0) (v := .int .u32 (Go.bits .or .u32 h bt)) (below_set (j := 0) (v := .int .u32 (Go.bits .or .u32 h bt)) (below_set (j := 1) (v := .slice A2 l0.length c2) (below_set (j := 0) (v := .int .u32 h) HBW2.out hg) hg) hg) hg1) hg1
  generalize ((((w2.setCell ⟨G, 0, none⟩ (.int .u32 h)).setCell ⟨G, 1, none⟩ (.slice A2 l0.length c2)).setCell ⟨G, 0, none⟩ (.int .u32 (Go.bits .or .u32 h bt))).setCell ⟨G + 1, 0, none⟩ (.int .u32 (Go.bits .or .u32 h bt))).setCell ⟨G + 1, 1, none⟩ (.slice A2 l0.length c2) = W5 at f2 r5 hB ⊢
  refine bodyPost_ret (results_ct rfl _ _ (G + 1) 27 #[.int .u32 (Go.bits .or .u32 h bt), .slice A2 l0.length c2] (0, 0) _ rfl f2 Tryd.underlying27 rfl (by kernel_rfl)) rfl ?_
  exact ⟨A2, c2, rfl, r5, hB⟩
end Go.Proofs.YthjmlmognbenoaaDoor.PAll
end

section
-- Written by myprint.py: the kit's print.py over this seat's translation, with contracts of my own.
namespace Go.Proofs.YthjmlmognbenoaaDoor.PAll
open Go.RowKit Go.Proofs.YthjmlmognbenoaaDoorW.PrintWords Go.Proofs.YthjmlmognbenoaaDoorW.PrintLast Go.Proofs.YthjmlmognbenoaaDoorW.PrintMore
attribute [local go_sem] max2_int min2_int max_two min_two max_three min_three max_four min_four   -- for this text's walks alone
set_option linter.unusedVariables false
set_option linter.unusedSimpArgs false

/-! ### calls_Calls_has: function 23 -/
def calls_Calls_has.f (a0_0 : Int) (l0_1 : List Int) (a1 : Int) : Option (Bool) := if a1 ≥ 0 then (some (decide (a1 < (l0_1.length : Int)))) else (some false)
set_option maxHeartbeats 8000000 in
set_option maxRecDepth 100000 in
theorem calls_Calls_has.calls (a0_0 : Int) (A0_1 : Option Addr) (c0_1 : Nat) (l0_1 : List Int) (a1 : Int) (r : Bool) (w : World) (hr0_1 : Kd.C (Kd.int .u32) w A0_1 l0_1.length l0_1) (hc0_1 : l0_1.length ≤ c0_1) (h : calls_Calls_has.f a0_0 l0_1 a1 = some r) :
    Calls Tryd.prog 23 #[.agg #[.int .u32 a0_0, .slice A0_1 l0_1.length c0_1], .int .i64 a1] w fun e w' => e = .returned (.bool r) ∧ Below w.heap.size w w' := by
  have hu27 := Tryd.underlying27
  have HR0_1 := Aside0.mk hr0_1
  have HC0_1 := Aside0.mk hc0_1
  clear hr0_1 hc0_1
  have HB := Aside0.mk (Below.refl w.heap.size w)
  have H : (if a1 ≥ 0 then (some (decide (a1 < (l0_1.length : Int)))) else (some false)) = some r := h
  clear h
  by_cases c3 : a1 ≥ 0
  · rw [if_pos c3] at H
    have c3b0 : decide (0 ≤ a1) = true := decide_eq_true c3
    clear c3
    obtain rfl := Option.some.inj H
    go_enter Tryd.func23, Tryd.ntmps23
    go_wp2_with (first | ((with_reducible refine gate_dst (N := 2) rfl ?_); (try (refine gate_guard (by rfl) ?_; dsimp only)); refine box_event ?hg (N := 2) ?hd (cs := #[.int .u32 a0_0, .slice A0_1 l0_1.length c0_1]) (t := 27) ?hr ?_; (case hd => rfl); (case hg => rfl); (case hr => first | (go_simp; done) | (go_simp; rfl)); intro gb119 hg w4 hbox hb; have n0_ := Aside0.mk (below_step (by repeat (first | (with_reducible first | exact HB.out | apply below_alloc | apply pw_below_drewN | apply below_drew1) | exact HB.out)) hb); have n1_ := Aside0.mk (hbox); have n2_ := Aside0.mk ((by rw [hg]; exact (below_size (by repeat (first | (with_reducible first | exact HB.out | apply below_alloc | apply pw_below_drewN | apply below_drew1) | exact HB.out))) : w.heap.size ≤ gb119)); have n3_ := Aside0.mk ((by rw [hg]; exact (below_size (by repeat (first | (with_reducible first | exact HB.out | apply below_alloc | apply pw_below_drewN | apply below_drew1) | exact HB.out))) : w.heap.size ≤ gb119)); clear HB; have HB := n0_; have BK119 := n1_; have GW119 := n2_; have GE119 := n3_; clear n0_ n1_ n2_ n3_; clear hb hbox hg; have hcz5_0 : w4.cell? ⟨gb119, 0, none⟩ = some (.int .u32 a0_0) := (blk_cell BK119.out 0).trans rfl; have hcz5_1 : w4.cell? ⟨gb119, 1, none⟩ = some (.slice A0_1 l0_1.length c0_1) := (blk_cell BK119.out 1).trans rfl; have hfz5_0 := blk_frozen BK119.out 0; have hfz5_1 := blk_frozen BK119.out 1))
    go_ret
    exact ⟨by first | rfl | (simp [errW_none, errW_some] <;> rfl) | (simp [*, errW_none, errW_some] <;> rfl), by repeat (first | (with_reducible first | exact HB.out | apply below_alloc | apply pw_below_drewN | apply below_drew1 | refine below_set ?_ GE119.out) | exact HB.out)⟩
  · rw [if_neg c3] at H
    have c3b0 : decide (0 ≤ a1) = false := decide_eq_false c3
    clear c3
    obtain rfl := Option.some.inj H
    go_enter Tryd.func23, Tryd.ntmps23
    go_wp2_with (first | ((with_reducible refine gate_dst (N := 2) rfl ?_); (try (refine gate_guard (by rfl) ?_; dsimp only)); refine box_event ?hg (N := 2) ?hd (cs := #[.int .u32 a0_0, .slice A0_1 l0_1.length c0_1]) (t := 27) ?hr ?_; (case hd => rfl); (case hg => rfl); (case hr => first | (go_simp; done) | (go_simp; rfl)); intro gb119 hg w6 hbox hb; have n0_ := Aside0.mk (below_step (by repeat (first | (with_reducible first | exact HB.out | apply below_alloc | apply pw_below_drewN | apply below_drew1) | exact HB.out)) hb); have n1_ := Aside0.mk (hbox); have n2_ := Aside0.mk ((by rw [hg]; exact (below_size (by repeat (first | (with_reducible first | exact HB.out | apply below_alloc | apply pw_below_drewN | apply below_drew1) | exact HB.out))) : w.heap.size ≤ gb119)); have n3_ := Aside0.mk ((by rw [hg]; exact (below_size (by repeat (first | (with_reducible first | exact HB.out | apply below_alloc | apply pw_below_drewN | apply below_drew1) | exact HB.out))) : w.heap.size ≤ gb119)); clear HB; have HB := n0_; have BK119 := n1_; have GW119 := n2_; have GE119 := n3_; clear n0_ n1_ n2_ n3_; clear hb hbox hg))
    go_ret
    exact ⟨by first | rfl | (simp [errW_none, errW_some] <;> rfl) | (simp [*, errW_none, errW_some] <;> rfl), by repeat (first | (with_reducible first | exact HB.out | apply below_alloc | apply pw_below_drewN | apply below_drew1 | refine below_set ?_ GE119.out) | exact HB.out)⟩

end Go.Proofs.YthjmlmognbenoaaDoor.PAll
end

/- The walks of (Calls).Car, by hand (no statement stands here). -/
section
namespace Go.Proofs.YthjmlmognbenoaaDoor.PAll
open Go.RowKit Go.Proofs.YthjmlmognbenoaaDoorW.PrintWords Go.Proofs.YthjmlmognbenoaaDoorW.PrintLast Go.Proofs.YthjmlmognbenoaaDoorW.PrintMore
set_option linter.unusedVariables false
set_option linter.unusedSimpArgs false
set_option maxRecDepth 100000 in
set_option maxHeartbeats 2000000 in
theorem Car_none (h car fl fs bt : Int) (A0 : Option Addr) (c0 : Nat) (l0 : List Int) (w : World) (hr0 : Kd.C (Kd.int .u32) w A0 l0.length l0) (hl : l0.length ≤ 1000000) (hb : calls_bit.f fl fs = some bt) (h0 : bt = 0) :
    Calls Tryd.prog 12 #[.agg #[.int .u32 h, .slice A0 l0.length c0], .int .i64 car, .int .i64 fl, .int .i64 fs] w fun e w' => ∃ (A : Option Addr) (c : Nat), e = .returned (.tuple #[.agg #[.int .u32 h, .slice A l0.length c], .bool false]) ∧ Kd.R (Kd.int .u32) 23 w' w.heap.size (fun _ => True) (.slice A l0.length c) l0 ∧ Below w.heap.size w w' := by
  subst h0
  have hu27 := Tryd.underlying27
  have HR0 := Aside0.mk hr0
  have HL := Aside0.mk hl
  have HBT := Aside0.mk hb
  have HE := Aside0.mk (show ∀ q, q ∈ 23 :: (Kd.int IntKind.u32).E → q ≠ 27 by intro q hq; have e : (Kd.int IntKind.u32).E = [] := rfl; rw [e] at hq; simp at hq; omega)
  clear hr0 hl hb
  go_enter Tryd.func12, Tryd.ntmps12
  go_upto_region 1 with (fail)
  obtain ⟨hB2, hB4, hbl⟩ := two_boxes w h A0 l0.length c0
  generalize hW : (w.alloc (.cells #[.int .u32 h, .slice A0 l0.length c0] 27)).alloc (.cells #[.int .u32 0, .slice none 0 0] 27) = W at hB2 hB4 hbl ⊢
  clear hW
  obtain ⟨G, hG⟩ : ∃ G, G = w.heap.size := ⟨_, rfl⟩
  have hG2 : w.heap.size + 1 = G + 1 := by rw [hG]
  rw [hG2] at hB4
  rw [← hG] at hB2
  have HGG := Aside0.mk (show w.heap.size ≤ G by rw [hG]; exact Nat.le_refl _)
  simp only [← hG, hG2]
  have HBG := Aside0.mk hB2
  have HBH := Aside0.mk hB4
  have HBW := Aside0.mk hbl
  have k0 := (blk_cell hB2 0).trans (rfl : _ = some (Value.int .u32 h))
  have k1 := (blk_cell hB2 1).trans (rfl : _ = some (Value.slice A0 l0.length c0))
  clear hG hG2 hB2 hB4 hbl
  go_wp2_with (first
    | (go_at_call 21; refine (calls_bit.calls fl fs 0 _ HBT.out).mono ?_; rintro e w1 ⟨rfl, hb1⟩; have HBW1 := Aside0.mk (below_step HBW.out hb1); have HBG1 := Aside0.mk (blk_below HBG.out hb1); have HBH1 := Aside0.mk (blk_below HBH.out hb1); clear hb1 k0 k1; have k0 := (blk_cell HBG1.out 0).trans (rfl : _ = some (Value.int .u32 h)); have k1 := (blk_cell HBG1.out 1).trans (rfl : _ = some (Value.slice A0 l0.length c0)))
    | (go_at_call 22; refine (own_calls h A0 c0 l0 _ (Kd.C_below HR0.out HBW1.out) HL.out).mono ?_; rintro e w2 ⟨A2, c2, rfl, hR2, hb2⟩; have HR2 := Aside0.mk (Kd.R_lower hR2 (below_size HBW1.out)); have HBW2 := Aside0.mk (below_step HBW1.out hb2); have HBG2 := Aside0.mk (blk_below HBG1.out hb2); have HBH2 := Aside0.mk (blk_below HBH1.out hb2); clear hR2 hb2 k0 k1; have k0 := (blk_cell HBG2.out 0).trans (rfl : _ = some (Value.int .u32 h)); have k1 := (blk_cell HBG2.out 1).trans (rfl : _ = some (Value.slice A0 l0.length c0)); have z0 := blk_frozen HBG2.out 0; have z1 := blk_frozen HBG2.out 1; have b1 := blk_put HBG2.out 0 (.int .u32 h) (cs' := #[.int .u32 h, .slice A0 l0.length c0]) rfl; have b2 := blk_put b1 1 (.slice A2 l0.length c2) (cs' := #[.int .u32 h, .slice A2 l0.length c2]) rfl; have n0 := (blk_cell b2 0).trans (rfl : _ = some (Value.int .u32 h)); have n1 := (blk_cell b2 1).trans (rfl : _ = some (Value.slice A2 l0.length c2)); have d1 := blk_far HBH2.out (p := ⟨G, 0, none⟩) (by simp) (.int .u32 h); have d2 := blk_far d1 (p := ⟨G, 1, none⟩) (by simp) (.slice A2 l0.length c2); have h0 := (blk_cell d2 0).trans (rfl : _ = some (Value.int .u32 0)); have h1 := (blk_cell d2 1).trans (rfl : _ = some (Value.slice none 0 0)); have x0 := blk_frozen d2 0; have x1 := blk_frozen d2 1; have HR3 := Aside0.mk (Kd.R_set (Kd.R_set HR2.out HBG2.out HE.out 0 (.int .u32 h)) b1 HE.out 1 (.slice A2 l0.length c2)); have HBW3 := Aside0.mk (below_set (j := 1) (v := .slice A2 l0.length c2) (below_set (j := 0) (v := .int .u32 h) HBW2.out HGG.out) HGG.out); have HB3 := Aside0.mk b2; have HD3 := Aside0.mk d2; clear b1 b2 d1 d2))
  have hg1 : w.heap.size ≤ G + 1 := Nat.le_succ_of_le HGG.out
  have f1 := blk_put HD3.out 0 (.int .u32 h) (cs' := #[.int .u32 h, .slice none 0 0]) rfl
  have f2 := blk_put f1 1 (.slice A2 l0.length c2) (cs' := #[.int .u32 h, .slice A2 l0.length c2]) rfl
  have r5 := Kd.R_set (Kd.R_set HR3.out HD3.out HE.out 0 (.int .u32 h)) f1 HE.out 1 (.slice A2 l0.length c2)
  have hB := below_set (j := 1) (v := .slice A2 l0.length c2) (below_set (j := 0) (v := .int .u32 h) HBW3.out hg1) hg1
  generalize (((w2.setCell ⟨G, 0, none⟩ (.int .u32 h)).setCell ⟨G, 1, none⟩ (.slice A2 l0.length c2)).setCell ⟨G + 1, 0, none⟩ (.int .u32 h)).setCell ⟨G + 1, 1, none⟩ (.slice A2 l0.length c2) = W5 at f2 r5 hB ⊢
  refine bodyPost_ret (results_ct rfl _ _ (G + 1) 27 #[.int .u32 h, .slice A2 l0.length c2] (0, 0) _ rfl f2 Tryd.underlying27 rfl (by kernel_rfl)) rfl ?_
  exact ⟨A2, c2, rfl, r5, hB⟩
set_option maxRecDepth 100000 in
set_option maxHeartbeats 2000000 in
theorem Car_not (h car fl fs bt : Int) (A0 : Option Addr) (c0 : Nat) (l0 : List Int) (w : World) (hr0 : Kd.C (Kd.int .u32) w A0 l0.length l0) (hl : l0.length ≤ 1000000) (hb : calls_bit.f fl fs = some bt) (hbt : bt ≠ 0) (hhas : calls_Calls_has.f h l0 car = some false) :
    Calls Tryd.prog 12 #[.agg #[.int .u32 h, .slice A0 l0.length c0], .int .i64 car, .int .i64 fl, .int .i64 fs] w fun e w' => ∃ (A : Option Addr) (c : Nat), e = .returned (.tuple #[.agg #[.int .u32 h, .slice A l0.length c], .bool false]) ∧ Kd.R (Kd.int .u32) 23 w' w.heap.size (fun _ => True) (.slice A l0.length c) l0 ∧ Below w.heap.size w w' := by
  have hu27 := Tryd.underlying27
  have HR0 := Aside0.mk hr0
  have HL := Aside0.mk hl
  have HBT := Aside0.mk hb
  have HE := Aside0.mk (show ∀ q, q ∈ 23 :: (Kd.int IntKind.u32).E → q ≠ 27 by intro q hq; have e : (Kd.int IntKind.u32).E = [] := rfl; rw [e] at hq; simp at hq; omega)
  have hne : (bt == 0) = false := by simpa using hbt
  have HHAS := Aside0.mk hhas
  clear hbt hhas
  clear hr0 hl hb
  go_enter Tryd.func12, Tryd.ntmps12
  go_upto_region 1 with (fail)
  obtain ⟨hB2, hB4, hbl⟩ := two_boxes w h A0 l0.length c0
  generalize hW : (w.alloc (.cells #[.int .u32 h, .slice A0 l0.length c0] 27)).alloc (.cells #[.int .u32 0, .slice none 0 0] 27) = W at hB2 hB4 hbl ⊢
  clear hW
  obtain ⟨G, hG⟩ : ∃ G, G = w.heap.size := ⟨_, rfl⟩
  have hG2 : w.heap.size + 1 = G + 1 := by rw [hG]
  rw [hG2] at hB4
  rw [← hG] at hB2
  have HGG := Aside0.mk (show w.heap.size ≤ G by rw [hG]; exact Nat.le_refl _)
  simp only [← hG, hG2]
  have HBG := Aside0.mk hB2
  have HBH := Aside0.mk hB4
  have HBW := Aside0.mk hbl
  have k0 := (blk_cell hB2 0).trans (rfl : _ = some (Value.int .u32 h))
  have k1 := (blk_cell hB2 1).trans (rfl : _ = some (Value.slice A0 l0.length c0))
  clear hG hG2 hB2 hB4 hbl
  go_wp2_with (first
    | (go_at_call 21; refine (calls_bit.calls fl fs bt _ HBT.out).mono ?_; rintro e w1 ⟨rfl, hb1⟩; have HBW1 := Aside0.mk (below_step HBW.out hb1); have HBG1 := Aside0.mk (blk_below HBG.out hb1); have HBH1 := Aside0.mk (blk_below HBH.out hb1); clear hb1 k0 k1; have k0 := (blk_cell HBG1.out 0).trans (rfl : _ = some (Value.int .u32 h)); have k1 := (blk_cell HBG1.out 1).trans (rfl : _ = some (Value.slice A0 l0.length c0)))
    | (go_at_call 22; refine (own_calls h A0 c0 l0 _ (Kd.C_below HR0.out HBW1.out) HL.out).mono ?_; rintro e w2 ⟨A2, c2, rfl, hR2, hb2⟩; have HR2 := Aside0.mk (Kd.R_lower hR2 (below_size HBW1.out)); have HBW2 := Aside0.mk (below_step HBW1.out hb2); have HBG2 := Aside0.mk (blk_below HBG1.out hb2); have HBH2 := Aside0.mk (blk_below HBH1.out hb2); clear hR2 hb2 k0 k1; have k0 := (blk_cell HBG2.out 0).trans (rfl : _ = some (Value.int .u32 h)); have k1 := (blk_cell HBG2.out 1).trans (rfl : _ = some (Value.slice A0 l0.length c0)); have z0 := blk_frozen HBG2.out 0; have z1 := blk_frozen HBG2.out 1; have b1 := blk_put HBG2.out 0 (.int .u32 h) (cs' := #[.int .u32 h, .slice A0 l0.length c0]) rfl; have b2 := blk_put b1 1 (.slice A2 l0.length c2) (cs' := #[.int .u32 h, .slice A2 l0.length c2]) rfl; have n0 := (blk_cell b2 0).trans (rfl : _ = some (Value.int .u32 h)); have n1 := (blk_cell b2 1).trans (rfl : _ = some (Value.slice A2 l0.length c2)); have d1 := blk_far HBH2.out (p := ⟨G, 0, none⟩) (by simp) (.int .u32 h); have d2 := blk_far d1 (p := ⟨G, 1, none⟩) (by simp) (.slice A2 l0.length c2); have h0 := (blk_cell d2 0).trans (rfl : _ = some (Value.int .u32 0)); have h1 := (blk_cell d2 1).trans (rfl : _ = some (Value.slice none 0 0)); have x0 := blk_frozen d2 0; have x1 := blk_frozen d2 1; have HR3 := Aside0.mk (Kd.R_set (Kd.R_set HR2.out HBG2.out HE.out 0 (.int .u32 h)) b1 HE.out 1 (.slice A2 l0.length c2)); have HBW3 := Aside0.mk (below_set (j := 1) (v := .slice A2 l0.length c2) (below_set (j := 0) (v := .int .u32 h) HBW2.out HGG.out) HGG.out); have HB3 := Aside0.mk b2; have HD3 := Aside0.mk d2; clear b1 b2 d1 d2)
    | (go_at_call 23; refine (calls_Calls_has.calls h A2 c2 l0 car false _ (Kd.R_reads' HR3.out).2.2 (Kd.R_reads' HR3.out).2.1 HHAS.out).mono ?_; rintro e w4 ⟨rfl, hb4⟩; have HR4 := Aside0.mk (Kd.R_below HR3.out hb4); have HBW4 := Aside0.mk (below_step HBW3.out hb4); have HB4 := Aside0.mk (blk_below HB3.out hb4); have HD4 := Aside0.mk (blk_below HD3.out hb4); clear hb4 k0 k1 n0 n1 h0 h1 x0 x1 z0 z1; have n0 := (blk_cell HB4.out 0).trans (rfl : _ = some (Value.int .u32 h)); have n1 := (blk_cell HB4.out 1).trans (rfl : _ = some (Value.slice A2 l0.length c2)); have h0 := (blk_cell HD4.out 0).trans (rfl : _ = some (Value.int .u32 0)); have h1 := (blk_cell HD4.out 1).trans (rfl : _ = some (Value.slice none 0 0)); have x0 := blk_frozen HD4.out 0; have x1 := blk_frozen HD4.out 1))
  have hg1 : w.heap.size ≤ G + 1 := Nat.le_succ_of_le HGG.out
  have f1 := blk_put HD4.out 0 (.int .u32 h) (cs' := #[.int .u32 h, .slice none 0 0]) rfl
  have f2 := blk_put f1 1 (.slice A2 l0.length c2) (cs' := #[.int .u32 h, .slice A2 l0.length c2]) rfl
  have r5 := Kd.R_set (Kd.R_set HR4.out HD4.out HE.out 0 (.int .u32 h)) f1 HE.out 1 (.slice A2 l0.length c2)
  have hB := below_set (j := 1) (v := .slice A2 l0.length c2) (below_set (j := 0) (v := .int .u32 h) HBW4.out hg1) hg1
  generalize (w4.setCell ⟨G + 1, 0, none⟩ (.int .u32 h)).setCell ⟨G + 1, 1, none⟩ (.slice A2 l0.length c2) = W5 at f2 r5 hB ⊢
  refine bodyPost_ret (results_ct rfl _ _ (G + 1) 27 #[.int .u32 h, .slice A2 l0.length c2] (0, 0) _ rfl f2 Tryd.underlying27 rfl (by kernel_rfl)) rfl ?_
  exact ⟨A2, c2, rfl, r5, hB⟩
set_option maxRecDepth 100000 in
set_option maxHeartbeats 2000000 in
theorem Car_yes (h car fl fs bt : Int) (A0 : Option Addr) (c0 : Nat) (l0 : List Int) (w : World) (hr0 : Kd.C (Kd.int .u32) w A0 l0.length l0) (hl : l0.length ≤ 1000000) (hb : calls_bit.f fl fs = some bt) (hbt : bt ≠ 0) (hhas : calls_Calls_has.f h l0 car = some true) (hcar : 0 ≤ car ∧ car < (l0.length : Int)) :
    Calls Tryd.prog 12 #[.agg #[.int .u32 h, .slice A0 l0.length c0], .int .i64 car, .int .i64 fl, .int .i64 fs] w fun e w' => ∃ (A : Option Addr) (c : Nat), e = .returned (.tuple #[.agg #[.int .u32 h, .slice A l0.length c], .bool true]) ∧ Kd.R (Kd.int .u32) 23 w' w.heap.size (fun _ => True) (.slice A l0.length c) (l0.set car.toNat (Go.bits .or .u32 (rdOf 0 l0 car) bt)) ∧ Below w.heap.size w w' := by
  have hu27 := Tryd.underlying27
  have HR0 := Aside0.mk hr0
  have HL := Aside0.mk hl
  have HBT := Aside0.mk hb
  have HE := Aside0.mk (show ∀ q, q ∈ 23 :: (Kd.int IntKind.u32).E → q ≠ 27 by intro q hq; have e : (Kd.int IntKind.u32).E = [] := rfl; rw [e] at hq; simp at hq; omega)
  have hne : (bt == 0) = false := by simpa using hbt
  have HHAS := Aside0.mk hhas
  clear hbt hhas
  obtain ⟨k, rfl⟩ := Int.eq_ofNat_of_zero_le hcar.1
  have HK := Aside0.mk (show k < l0.length by omega)
  have p1 : ((0 : Int) ≤ (k : Int)) = True := eq_true (by omega)
  have q1 : ((k : Int) < (l0.length : Int)) = True := eq_true hcar.2
  clear hcar
  clear hr0 hl hb
  go_enter Tryd.func12, Tryd.ntmps12
  go_upto_region 1 with (fail)
  obtain ⟨hB2, hB4, hbl⟩ := two_boxes w h A0 l0.length c0
  generalize hW : (w.alloc (.cells #[.int .u32 h, .slice A0 l0.length c0] 27)).alloc (.cells #[.int .u32 0, .slice none 0 0] 27) = W at hB2 hB4 hbl ⊢
  clear hW
  obtain ⟨G, hG⟩ : ∃ G, G = w.heap.size := ⟨_, rfl⟩
  have hG2 : w.heap.size + 1 = G + 1 := by rw [hG]
  rw [hG2] at hB4
  rw [← hG] at hB2
  have HGG := Aside0.mk (show w.heap.size ≤ G by rw [hG]; exact Nat.le_refl _)
  simp only [← hG, hG2]
  have HBG := Aside0.mk hB2
  have HBH := Aside0.mk hB4
  have HBW := Aside0.mk hbl
  have k0 := (blk_cell hB2 0).trans (rfl : _ = some (Value.int .u32 h))
  have k1 := (blk_cell hB2 1).trans (rfl : _ = some (Value.slice A0 l0.length c0))
  clear hG hG2 hB2 hB4 hbl
  go_wp2_with (first
    | (go_at_call 21; refine (calls_bit.calls fl fs bt _ HBT.out).mono ?_; rintro e w1 ⟨rfl, hb1⟩; have HBW1 := Aside0.mk (below_step HBW.out hb1); have HBG1 := Aside0.mk (blk_below HBG.out hb1); have HBH1 := Aside0.mk (blk_below HBH.out hb1); clear hb1 k0 k1; have k0 := (blk_cell HBG1.out 0).trans (rfl : _ = some (Value.int .u32 h)); have k1 := (blk_cell HBG1.out 1).trans (rfl : _ = some (Value.slice A0 l0.length c0)))
    | (go_at_call 22; refine (own_calls h A0 c0 l0 _ (Kd.C_below HR0.out HBW1.out) HL.out).mono ?_; rintro e w2 ⟨A2, c2, rfl, hR2, hb2⟩; have HR2 := Aside0.mk (Kd.R_lower hR2 (below_size HBW1.out)); have HBW2 := Aside0.mk (below_step HBW1.out hb2); have HBG2 := Aside0.mk (blk_below HBG1.out hb2); have HBH2 := Aside0.mk (blk_below HBH1.out hb2); clear hR2 hb2 k0 k1; have k0 := (blk_cell HBG2.out 0).trans (rfl : _ = some (Value.int .u32 h)); have k1 := (blk_cell HBG2.out 1).trans (rfl : _ = some (Value.slice A0 l0.length c0)); have z0 := blk_frozen HBG2.out 0; have z1 := blk_frozen HBG2.out 1; have b1 := blk_put HBG2.out 0 (.int .u32 h) (cs' := #[.int .u32 h, .slice A0 l0.length c0]) rfl; have b2 := blk_put b1 1 (.slice A2 l0.length c2) (cs' := #[.int .u32 h, .slice A2 l0.length c2]) rfl; have n0 := (blk_cell b2 0).trans (rfl : _ = some (Value.int .u32 h)); have n1 := (blk_cell b2 1).trans (rfl : _ = some (Value.slice A2 l0.length c2)); have d1 := blk_far HBH2.out (p := ⟨G, 0, none⟩) (by simp) (.int .u32 h); have d2 := blk_far d1 (p := ⟨G, 1, none⟩) (by simp) (.slice A2 l0.length c2); have h0 := (blk_cell d2 0).trans (rfl : _ = some (Value.int .u32 0)); have h1 := (blk_cell d2 1).trans (rfl : _ = some (Value.slice none 0 0)); have x0 := blk_frozen d2 0; have x1 := blk_frozen d2 1; have HR3 := Aside0.mk (Kd.R_set (Kd.R_set HR2.out HBG2.out HE.out 0 (.int .u32 h)) b1 HE.out 1 (.slice A2 l0.length c2)); have HBW3 := Aside0.mk (below_set (j := 1) (v := .slice A2 l0.length c2) (below_set (j := 0) (v := .int .u32 h) HBW2.out HGG.out) HGG.out); have HB3 := Aside0.mk b2; have HD3 := Aside0.mk d2; clear b1 b2 d1 d2)
    | (go_at_call 23; refine (calls_Calls_has.calls h A2 c2 l0 (k : Int) true _ (Kd.R_reads' HR3.out).2.2 (Kd.R_reads' HR3.out).2.1 HHAS.out).mono ?_; rintro e w4 ⟨rfl, hb4⟩; have HR4 := Aside0.mk (Kd.R_below HR3.out hb4); have HBW4 := Aside0.mk (below_step HBW3.out hb4); have HB4 := Aside0.mk (blk_below HB3.out hb4); have HD4 := Aside0.mk (blk_below HD3.out hb4); clear hb4 k0 k1 n0 n1 h0 h1 x0 x1 z0 z1; have n0 := (blk_cell HB4.out 0).trans (rfl : _ = some (Value.int .u32 h)); have n1 := (blk_cell HB4.out 1).trans (rfl : _ = some (Value.slice A2 l0.length c2)); have h0 := (blk_cell HD4.out 0).trans (rfl : _ = some (Value.int .u32 0)); have h1 := (blk_cell HD4.out 1).trans (rfl : _ = some (Value.slice none 0 0)); have x0 := blk_frozen HD4.out 0; have x1 := blk_frozen HD4.out 1; obtain ⟨g, c3, eA, hgb, hgl, cells, hgc⟩ := Kd.R_form HR4.out (by have := HK.out; omega); injection eA with eA1 eA2 eA3; subst eA1; subst eA3; obtain ⟨hc4, hf4⟩ := Kd.R_cell (0 : Int) HR4.out (k : Int) (by omega) (by have := HK.out; omega); rw [Int.toNat_natCast] at hc4 hf4; have hp := Kd.R_putg HR4.out (k : Int) (Go.bits .or .u32 (rdOf 0 l0 (k : Int)) bt); rw [Int.toNat_natCast] at hp; have HP := Aside0.mk hp.1; have HGB := Aside0.mk hgb; have hgG : G ≠ g := blk_ne HB4.out hgc (by decide); have hgH : G + 1 ≠ g := blk_ne HD4.out hgc (by decide); have v1 := blk_far HB4.out (p := ⟨g, k, none⟩) hgG (.int .u32 (Go.bits .or .u32 (rdOf 0 l0 (k : Int)) bt)); have v2 := blk_far HD4.out (p := ⟨g, k, none⟩) hgH (.int .u32 (Go.bits .or .u32 (rdOf 0 l0 (k : Int)) bt)); have V1 := Aside0.mk v1; have V2 := Aside0.mk v2; have o0 := (blk_cell v1 0).trans (rfl : _ = some (Value.int .u32 h)); have o1 := (blk_cell v1 1).trans (rfl : _ = some (Value.slice (some ⟨g, 0, none⟩) l0.length c2)); have o2 := (blk_cell v2 0).trans (rfl : _ = some (Value.int .u32 0)); have o3 := (blk_cell v2 1).trans (rfl : _ = some (Value.slice none 0 0)); have o4 := blk_frozen v2 0; have o5 := blk_frozen v2 1; clear hp v1 v2 hgb hgc hgl hgG hgH))
  have hg1 : w.heap.size ≤ G + 1 := Nat.le_succ_of_le HGG.out
  have f1 := blk_put V2.out 0 (.int .u32 h) (cs' := #[.int .u32 h, .slice none 0 0]) rfl
  have f2 := blk_put f1 1 (.slice (some ⟨g, 0, none⟩) l0.length c2) (cs' := #[.int .u32 h, .slice (some ⟨g, 0, none⟩) l0.length c2]) rfl
  have r5 := Kd.R_set (Kd.R_set HP.out V2.out HE.out 0 (.int .u32 h)) f1 HE.out 1 (.slice (some ⟨g, 0, none⟩) l0.length c2)
  have hB := below_set (j := 1) (v := .slice (some ⟨g, 0, none⟩) l0.length c2) (below_set (j := 0) (v := .int .u32 h) (below_set (j := k) (v := .int .u32 (Go.bits .or .u32 (rdOf 0 l0 (k : Int)) bt)) HBW4.out HGB.out) hg1) hg1
  generalize ((w4.setCell ⟨g, k, none⟩ (.int .u32 (Go.bits .or .u32 (rdOf 0 l0 (k : Int)) bt))).setCell ⟨G + 1, 0, none⟩ (.int .u32 h)).setCell ⟨G + 1, 1, none⟩ (.slice (some ⟨g, 0, none⟩) l0.length c2) = W5 at f2 r5 hB ⊢
  refine bodyPost_ret (results_ct rfl _ _ (G + 1) 27 #[.int .u32 h, .slice (some ⟨g, 0, none⟩) l0.length c2] (0, 0) _ rfl f2 Tryd.underlying27 rfl (by kernel_rfl)) rfl ?_
  exact ⟨some ⟨g, 0, none⟩, c2, rfl, r5, hB⟩
end Go.Proofs.YthjmlmognbenoaaDoor.PAll
end

/- The walks of (Calls).Done, by hand (no statement stands here). -/
section
namespace Go.Proofs.YthjmlmognbenoaaDoor.PAll
open Go.RowKit Go.Proofs.YthjmlmognbenoaaDoorW.PrintWords Go.Proofs.YthjmlmognbenoaaDoorW.PrintLast Go.Proofs.YthjmlmognbenoaaDoorW.PrintMore
set_option linter.unusedVariables false
set_option linter.unusedSimpArgs false
def hallsD (h bt : Int) : Bool → Int
  | true => Go.bits .andNot .u32 h bt
  | false => h
set_option maxRecDepth 100000 in
set_option maxHeartbeats 4000000 in
theorem Done_not (h car fl bt : Int) (hh : Bool) (A0 : Option Addr) (c0 : Nat) (l0 : List Int) (w : World) (hr0 : Kd.C (Kd.int .u32) w A0 l0.length l0) (hl : l0.length ≤ 1000000) (hb : calls_bit.f fl 32 = some bt) (hhas : calls_Calls_has.f h l0 car = some false) :
    Calls Tryd.prog 14 #[.agg #[.int .u32 h, .slice A0 l0.length c0], .int .i64 car, .int .i64 fl, .bool hh] w fun e w' => ∃ (A : Option Addr) (c : Nat), e = .returned (.agg #[.int .u32 (hallsD h bt hh), .slice A l0.length c]) ∧ Kd.R (Kd.int .u32) 23 w' w.heap.size (fun _ => True) (.slice A l0.length c) l0 ∧ Below w.heap.size w w' := by
  have hu27 := Tryd.underlying27
  have HR0 := Aside0.mk hr0
  have HL := Aside0.mk hl
  have HBT := Aside0.mk hb
  have HE := Aside0.mk (show ∀ q, q ∈ 23 :: (Kd.int IntKind.u32).E → q ≠ 27 by intro q hq; have e : (Kd.int IntKind.u32).E = [] := rfl; rw [e] at hq; simp at hq; omega)
  have HHAS := Aside0.mk hhas
  clear hhas
  clear hr0 hl hb
  cases hh with
  | false =>
    go_enter Tryd.func14, Tryd.ntmps14
    go_upto_region 1 with (fail)
    obtain ⟨hB2, hB4, hbl⟩ := two_boxes w h A0 l0.length c0
    generalize hW : (w.alloc (.cells #[.int .u32 h, .slice A0 l0.length c0] 27)).alloc (.cells #[.int .u32 0, .slice none 0 0] 27) = W at hB2 hB4 hbl ⊢
    clear hW
    obtain ⟨G, hG⟩ : ∃ G, G = w.heap.size := ⟨_, rfl⟩
    have hG2 : w.heap.size + 1 = G + 1 := by rw [hG]
    rw [hG2] at hB4
    rw [← hG] at hB2
    have HGG := Aside0.mk (show w.heap.size ≤ G by rw [hG]; exact Nat.le_refl _)
    simp only [← hG, hG2]
    have HBG := Aside0.mk hB2
    have HBH := Aside0.mk hB4
    have HBW := Aside0.mk hbl
    have k0 := (blk_cell hB2 0).trans (rfl : _ = some (Value.int .u32 h))
    have k1 := (blk_cell hB2 1).trans (rfl : _ = some (Value.slice A0 l0.length c0))
    clear hG hG2 hB2 hB4 hbl
    go_wp2_with (first
      | (go_at_call 21; refine (calls_bit.calls fl 32 bt _ HBT.out).mono ?_; rintro e w1 ⟨rfl, hb1⟩; have HBW1 := Aside0.mk (below_step HBW.out hb1); have HBG1 := Aside0.mk (blk_below HBG.out hb1); have HBH1 := Aside0.mk (blk_below HBH.out hb1); clear hb1 k0 k1; have k0 := (blk_cell HBG1.out 0).trans (rfl : _ = some (Value.int .u32 h)); have k1 := (blk_cell HBG1.out 1).trans (rfl : _ = some (Value.slice A0 l0.length c0)))
      | (go_at_call 22; refine (own_calls h A0 c0 l0 _ (Kd.C_below HR0.out HBW1.out) HL.out).mono ?_; rintro e w2 ⟨A2, c2, rfl, hR2, hb2⟩; have HR2 := Aside0.mk (Kd.R_lower hR2 (below_size HBW1.out)); have HBW2 := Aside0.mk (below_step HBW1.out hb2); have HBG2 := Aside0.mk (blk_below HBG1.out hb2); have HBH2 := Aside0.mk (blk_below HBH1.out hb2); clear hR2 hb2 k0 k1; have k0 := (blk_cell HBG2.out 0).trans (rfl : _ = some (Value.int .u32 h)); have k1 := (blk_cell HBG2.out 1).trans (rfl : _ = some (Value.slice A0 l0.length c0)); have z0 := blk_frozen HBG2.out 0; have z1 := blk_frozen HBG2.out 1; have b1 := blk_put HBG2.out 0 (.int .u32 h) (cs' := #[.int .u32 h, .slice A0 l0.length c0]) rfl; have b2 := blk_put b1 1 (.slice A2 l0.length c2) (cs' := #[.int .u32 h, .slice A2 l0.length c2]) rfl; have n0 := (blk_cell b2 0).trans (rfl : _ = some (Value.int .u32 h)); have n1 := (blk_cell b2 1).trans (rfl : _ = some (Value.slice A2 l0.length c2)); have d1 := blk_far HBH2.out (p := ⟨G, 0, none⟩) (by simp) (.int .u32 h); have d2 := blk_far d1 (p := ⟨G, 1, none⟩) (by simp) (.slice A2 l0.length c2); have h0 := (blk_cell d2 0).trans (rfl : _ = some (Value.int .u32 0)); have h1 := (blk_cell d2 1).trans (rfl : _ = some (Value.slice none 0 0)); have x0 := blk_frozen d2 0; have x1 := blk_frozen d2 1; have HR3 := Aside0.mk (Kd.R_set (Kd.R_set HR2.out HBG2.out HE.out 0 (.int .u32 h)) b1 HE.out 1 (.slice A2 l0.length c2)); have HBW3 := Aside0.mk (below_set (j := 1) (v := .slice A2 l0.length c2) (below_set (j := 0) (v := .int .u32 h) HBW2.out HGG.out) HGG.out); have HB3 := Aside0.mk b2; have HD3 := Aside0.mk d2; clear b1 b2 d1 d2)
      | (go_at_call 23; refine (calls_Calls_has.calls h A2 c2 l0 car false _ (Kd.R_reads' HR3.out).2.2 (Kd.R_reads' HR3.out).2.1 HHAS.out).mono ?_; rintro e w4 ⟨rfl, hb4⟩; have HR4 := Aside0.mk (Kd.R_below HR3.out hb4); have HBW4 := Aside0.mk (below_step HBW3.out hb4); have HB4 := Aside0.mk (blk_below HB3.out hb4); have HD4 := Aside0.mk (blk_below HD3.out hb4); clear hb4 k0 k1 n0 n1 h0 h1 x0 x1 z0 z1; have n0 := (blk_cell HB4.out 0).trans (rfl : _ = some (Value.int .u32 h)); have n1 := (blk_cell HB4.out 1).trans (rfl : _ = some (Value.slice A2 l0.length c2)); have h0 := (blk_cell HD4.out 0).trans (rfl : _ = some (Value.int .u32 0)); have h1 := (blk_cell HD4.out 1).trans (rfl : _ = some (Value.slice none 0 0)); have x0 := blk_frozen HD4.out 0; have x1 := blk_frozen HD4.out 1; have u1 := blk_put HB4.out 0 (.int .u32 (Go.bits .andNot .u32 h bt)) (cs' := #[.int .u32 (Go.bits .andNot .u32 h bt), .slice A2 l0.length c2]) rfl; have u2 := blk_far HD4.out (p := ⟨G, 0, none⟩) (by simp) (.int .u32 (Go.bits .andNot .u32 h bt)); have U1 := Aside0.mk u1; have U2 := Aside0.mk u2; have s0 := (blk_cell u1 0).trans (rfl : _ = some (Value.int .u32 (Go.bits .andNot .u32 h bt))); have s1 := (blk_cell u1 1).trans (rfl : _ = some (Value.slice A2 l0.length c2)); have s2 := (blk_cell u2 0).trans (rfl : _ = some (Value.int .u32 0)); have s3 := (blk_cell u2 1).trans (rfl : _ = some (Value.slice none 0 0)); have s4 := blk_frozen u2 0; have s5 := blk_frozen u2 1; have s6 := blk_frozen HB4.out 0; clear u1 u2))
    have hg1 : w.heap.size ≤ G + 1 := Nat.le_succ_of_le HGG.out
    have f1 := blk_put HD4.out 0 (.int .u32 h) (cs' := #[.int .u32 h, .slice none 0 0]) rfl
    have f2 := blk_put f1 1 (.slice A2 l0.length c2) (cs' := #[.int .u32 h, .slice A2 l0.length c2]) rfl
    have r5 := Kd.R_set (Kd.R_set HR4.out HD4.out HE.out 0 (.int .u32 h)) f1 HE.out 1 (.slice A2 l0.length c2)
    have hB := below_set (j := 1) (v := (.slice A2 l0.length c2)) (below_set (j := 0) (v := .int .u32 h) HBW4.out hg1) hg1
    generalize (w4.setCell ⟨G + 1, 0, none⟩ (.int .u32 h)).setCell ⟨G + 1, 1, none⟩ (.slice A2 l0.length c2) = W5 at f2 r5 hB ⊢
    refine bodyPost_ret (results_cell_row rfl _ _ (G + 1) 27 #[.int .u32 h, .slice A2 l0.length c2] (0, 0) _ rfl f2 Tryd.underlying27 rfl (by kernel_rfl)) rfl ?_
    exact ⟨A2, c2, rfl, r5, hB⟩
  | true =>
    go_enter Tryd.func14, Tryd.ntmps14
    go_upto_region 1 with (fail)
    obtain ⟨hB2, hB4, hbl⟩ := two_boxes w h A0 l0.length c0
    generalize hW : (w.alloc (.cells #[.int .u32 h, .slice A0 l0.length c0] 27)).alloc (.cells #[.int .u32 0, .slice none 0 0] 27) = W at hB2 hB4 hbl ⊢
    clear hW
    obtain ⟨G, hG⟩ : ∃ G, G = w.heap.size := ⟨_, rfl⟩
    have hG2 : w.heap.size + 1 = G + 1 := by rw [hG]
    rw [hG2] at hB4
    rw [← hG] at hB2
    have HGG := Aside0.mk (show w.heap.size ≤ G by rw [hG]; exact Nat.le_refl _)
    simp only [← hG, hG2]
    have HBG := Aside0.mk hB2
    have HBH := Aside0.mk hB4
    have HBW := Aside0.mk hbl
    have k0 := (blk_cell hB2 0).trans (rfl : _ = some (Value.int .u32 h))
    have k1 := (blk_cell hB2 1).trans (rfl : _ = some (Value.slice A0 l0.length c0))
    clear hG hG2 hB2 hB4 hbl
    go_wp2_with (first
      | (go_at_call 21; refine (calls_bit.calls fl 32 bt _ HBT.out).mono ?_; rintro e w1 ⟨rfl, hb1⟩; have HBW1 := Aside0.mk (below_step HBW.out hb1); have HBG1 := Aside0.mk (blk_below HBG.out hb1); have HBH1 := Aside0.mk (blk_below HBH.out hb1); clear hb1 k0 k1; have k0 := (blk_cell HBG1.out 0).trans (rfl : _ = some (Value.int .u32 h)); have k1 := (blk_cell HBG1.out 1).trans (rfl : _ = some (Value.slice A0 l0.length c0)))
      | (go_at_call 22; refine (own_calls h A0 c0 l0 _ (Kd.C_below HR0.out HBW1.out) HL.out).mono ?_; rintro e w2 ⟨A2, c2, rfl, hR2, hb2⟩; have HR2 := Aside0.mk (Kd.R_lower hR2 (below_size HBW1.out)); have HBW2 := Aside0.mk (below_step HBW1.out hb2); have HBG2 := Aside0.mk (blk_below HBG1.out hb2); have HBH2 := Aside0.mk (blk_below HBH1.out hb2); clear hR2 hb2 k0 k1; have k0 := (blk_cell HBG2.out 0).trans (rfl : _ = some (Value.int .u32 h)); have k1 := (blk_cell HBG2.out 1).trans (rfl : _ = some (Value.slice A0 l0.length c0)); have z0 := blk_frozen HBG2.out 0; have z1 := blk_frozen HBG2.out 1; have b1 := blk_put HBG2.out 0 (.int .u32 h) (cs' := #[.int .u32 h, .slice A0 l0.length c0]) rfl; have b2 := blk_put b1 1 (.slice A2 l0.length c2) (cs' := #[.int .u32 h, .slice A2 l0.length c2]) rfl; have n0 := (blk_cell b2 0).trans (rfl : _ = some (Value.int .u32 h)); have n1 := (blk_cell b2 1).trans (rfl : _ = some (Value.slice A2 l0.length c2)); have d1 := blk_far HBH2.out (p := ⟨G, 0, none⟩) (by simp) (.int .u32 h); have d2 := blk_far d1 (p := ⟨G, 1, none⟩) (by simp) (.slice A2 l0.length c2); have h0 := (blk_cell d2 0).trans (rfl : _ = some (Value.int .u32 0)); have h1 := (blk_cell d2 1).trans (rfl : _ = some (Value.slice none 0 0)); have x0 := blk_frozen d2 0; have x1 := blk_frozen d2 1; have HR3 := Aside0.mk (Kd.R_set (Kd.R_set HR2.out HBG2.out HE.out 0 (.int .u32 h)) b1 HE.out 1 (.slice A2 l0.length c2)); have HBW3 := Aside0.mk (below_set (j := 1) (v := .slice A2 l0.length c2) (below_set (j := 0) (v := .int .u32 h) HBW2.out HGG.out) HGG.out); have HB3 := Aside0.mk b2; have HD3 := Aside0.mk d2; clear b1 b2 d1 d2)
      | (go_at_call 23; refine (calls_Calls_has.calls h A2 c2 l0 car false _ (Kd.R_reads' HR3.out).2.2 (Kd.R_reads' HR3.out).2.1 HHAS.out).mono ?_; rintro e w4 ⟨rfl, hb4⟩; have HR4 := Aside0.mk (Kd.R_below HR3.out hb4); have HBW4 := Aside0.mk (below_step HBW3.out hb4); have HB4 := Aside0.mk (blk_below HB3.out hb4); have HD4 := Aside0.mk (blk_below HD3.out hb4); clear hb4 k0 k1 n0 n1 h0 h1 x0 x1 z0 z1; have n0 := (blk_cell HB4.out 0).trans (rfl : _ = some (Value.int .u32 h)); have n1 := (blk_cell HB4.out 1).trans (rfl : _ = some (Value.slice A2 l0.length c2)); have h0 := (blk_cell HD4.out 0).trans (rfl : _ = some (Value.int .u32 0)); have h1 := (blk_cell HD4.out 1).trans (rfl : _ = some (Value.slice none 0 0)); have x0 := blk_frozen HD4.out 0; have x1 := blk_frozen HD4.out 1; have u1 := blk_put HB4.out 0 (.int .u32 (Go.bits .andNot .u32 h bt)) (cs' := #[.int .u32 (Go.bits .andNot .u32 h bt), .slice A2 l0.length c2]) rfl; have u2 := blk_far HD4.out (p := ⟨G, 0, none⟩) (by simp) (.int .u32 (Go.bits .andNot .u32 h bt)); have U1 := Aside0.mk u1; have U2 := Aside0.mk u2; have s0 := (blk_cell u1 0).trans (rfl : _ = some (Value.int .u32 (Go.bits .andNot .u32 h bt))); have s1 := (blk_cell u1 1).trans (rfl : _ = some (Value.slice A2 l0.length c2)); have s2 := (blk_cell u2 0).trans (rfl : _ = some (Value.int .u32 0)); have s3 := (blk_cell u2 1).trans (rfl : _ = some (Value.slice none 0 0)); have s4 := blk_frozen u2 0; have s5 := blk_frozen u2 1; have s6 := blk_frozen HB4.out 0; clear u1 u2))
    have hg1 : w.heap.size ≤ G + 1 := Nat.le_succ_of_le HGG.out
    have f1 := blk_put U2.out 0 (.int .u32 (Go.bits .andNot .u32 h bt)) (cs' := #[.int .u32 (Go.bits .andNot .u32 h bt), .slice none 0 0]) rfl
    have f2 := blk_put f1 1 (.slice A2 l0.length c2) (cs' := #[.int .u32 (Go.bits .andNot .u32 h bt), .slice A2 l0.length c2]) rfl
    have r5 := Kd.R_set (Kd.R_set (Kd.R_set HR4.out HB4.out HE.out 0 (.int .u32 (Go.bits .andNot .u32 h bt))) U2.out HE.out 0 (.int .u32 (Go.bits .andNot .u32 h bt))) f1 HE.out 1 (.slice A2 l0.length c2)
    have hB := below_set (j := 1) (v := (.slice A2 l0.length c2)) (below_set (j := 0) (v := .int .u32 (Go.bits .andNot .u32 h bt)) (below_set (j := 0) (v := .int .u32 (Go.bits .andNot .u32 h bt)) HBW4.out HGG.out) hg1) hg1
    generalize ((w4.setCell ⟨G, 0, none⟩ (.int .u32 (Go.bits .andNot .u32 h bt))).setCell ⟨G + 1, 0, none⟩ (.int .u32 (Go.bits .andNot .u32 h bt))).setCell ⟨G + 1, 1, none⟩ (.slice A2 l0.length c2) = W5 at f2 r5 hB ⊢
    refine bodyPost_ret (results_cell_row rfl _ _ (G + 1) 27 #[.int .u32 (Go.bits .andNot .u32 h bt), .slice A2 l0.length c2] (0, 0) _ rfl f2 Tryd.underlying27 rfl (by kernel_rfl)) rfl ?_
    exact ⟨A2, c2, rfl, r5, hB⟩
set_option maxRecDepth 100000 in
set_option maxHeartbeats 4000000 in
theorem Done_has (h car fl bt : Int) (hh : Bool) (A0 : Option Addr) (c0 : Nat) (l0 : List Int) (w : World) (hr0 : Kd.C (Kd.int .u32) w A0 l0.length l0) (hl : l0.length ≤ 1000000) (hb : calls_bit.f fl 32 = some bt) (hhas : calls_Calls_has.f h l0 car = some true) (hcar : 0 ≤ car ∧ car < (l0.length : Int)) :
    Calls Tryd.prog 14 #[.agg #[.int .u32 h, .slice A0 l0.length c0], .int .i64 car, .int .i64 fl, .bool hh] w fun e w' => ∃ (A : Option Addr) (c : Nat), e = .returned (.agg #[.int .u32 (hallsD h bt hh), .slice A l0.length c]) ∧ Kd.R (Kd.int .u32) 23 w' w.heap.size (fun _ => True) (.slice A l0.length c) (l0.set car.toNat (Go.bits .andNot .u32 (rdOf 0 l0 car) bt)) ∧ Below w.heap.size w w' := by
  have hu27 := Tryd.underlying27
  have HR0 := Aside0.mk hr0
  have HL := Aside0.mk hl
  have HBT := Aside0.mk hb
  have HE := Aside0.mk (show ∀ q, q ∈ 23 :: (Kd.int IntKind.u32).E → q ≠ 27 by intro q hq; have e : (Kd.int IntKind.u32).E = [] := rfl; rw [e] at hq; simp at hq; omega)
  have HHAS := Aside0.mk hhas
  clear hhas
  obtain ⟨k, rfl⟩ := Int.eq_ofNat_of_zero_le hcar.1
  have HK := Aside0.mk (show k < l0.length by omega)
  have p1 : ((0 : Int) ≤ (k : Int)) = True := eq_true (by omega)
  have q1 : ((k : Int) < (l0.length : Int)) = True := eq_true hcar.2
  clear hcar
  clear hr0 hl hb
  cases hh with
  | false =>
    go_enter Tryd.func14, Tryd.ntmps14
    go_upto_region 1 with (fail)
    obtain ⟨hB2, hB4, hbl⟩ := two_boxes w h A0 l0.length c0
    generalize hW : (w.alloc (.cells #[.int .u32 h, .slice A0 l0.length c0] 27)).alloc (.cells #[.int .u32 0, .slice none 0 0] 27) = W at hB2 hB4 hbl ⊢
    clear hW
    obtain ⟨G, hG⟩ : ∃ G, G = w.heap.size := ⟨_, rfl⟩
    have hG2 : w.heap.size + 1 = G + 1 := by rw [hG]
    rw [hG2] at hB4
    rw [← hG] at hB2
    have HGG := Aside0.mk (show w.heap.size ≤ G by rw [hG]; exact Nat.le_refl _)
    simp only [← hG, hG2]
    have HBG := Aside0.mk hB2
    have HBH := Aside0.mk hB4
    have HBW := Aside0.mk hbl
    have k0 := (blk_cell hB2 0).trans (rfl : _ = some (Value.int .u32 h))
    have k1 := (blk_cell hB2 1).trans (rfl : _ = some (Value.slice A0 l0.length c0))
    clear hG hG2 hB2 hB4 hbl
    go_wp2_with (first
      | (go_at_call 21; refine (calls_bit.calls fl 32 bt _ HBT.out).mono ?_; rintro e w1 ⟨rfl, hb1⟩; have HBW1 := Aside0.mk (below_step HBW.out hb1); have HBG1 := Aside0.mk (blk_below HBG.out hb1); have HBH1 := Aside0.mk (blk_below HBH.out hb1); clear hb1 k0 k1; have k0 := (blk_cell HBG1.out 0).trans (rfl : _ = some (Value.int .u32 h)); have k1 := (blk_cell HBG1.out 1).trans (rfl : _ = some (Value.slice A0 l0.length c0)))
      | (go_at_call 22; refine (own_calls h A0 c0 l0 _ (Kd.C_below HR0.out HBW1.out) HL.out).mono ?_; rintro e w2 ⟨A2, c2, rfl, hR2, hb2⟩; have HR2 := Aside0.mk (Kd.R_lower hR2 (below_size HBW1.out)); have HBW2 := Aside0.mk (below_step HBW1.out hb2); have HBG2 := Aside0.mk (blk_below HBG1.out hb2); have HBH2 := Aside0.mk (blk_below HBH1.out hb2); clear hR2 hb2 k0 k1; have k0 := (blk_cell HBG2.out 0).trans (rfl : _ = some (Value.int .u32 h)); have k1 := (blk_cell HBG2.out 1).trans (rfl : _ = some (Value.slice A0 l0.length c0)); have z0 := blk_frozen HBG2.out 0; have z1 := blk_frozen HBG2.out 1; have b1 := blk_put HBG2.out 0 (.int .u32 h) (cs' := #[.int .u32 h, .slice A0 l0.length c0]) rfl; have b2 := blk_put b1 1 (.slice A2 l0.length c2) (cs' := #[.int .u32 h, .slice A2 l0.length c2]) rfl; have n0 := (blk_cell b2 0).trans (rfl : _ = some (Value.int .u32 h)); have n1 := (blk_cell b2 1).trans (rfl : _ = some (Value.slice A2 l0.length c2)); have d1 := blk_far HBH2.out (p := ⟨G, 0, none⟩) (by simp) (.int .u32 h); have d2 := blk_far d1 (p := ⟨G, 1, none⟩) (by simp) (.slice A2 l0.length c2); have h0 := (blk_cell d2 0).trans (rfl : _ = some (Value.int .u32 0)); have h1 := (blk_cell d2 1).trans (rfl : _ = some (Value.slice none 0 0)); have x0 := blk_frozen d2 0; have x1 := blk_frozen d2 1; have HR3 := Aside0.mk (Kd.R_set (Kd.R_set HR2.out HBG2.out HE.out 0 (.int .u32 h)) b1 HE.out 1 (.slice A2 l0.length c2)); have HBW3 := Aside0.mk (below_set (j := 1) (v := .slice A2 l0.length c2) (below_set (j := 0) (v := .int .u32 h) HBW2.out HGG.out) HGG.out); have HB3 := Aside0.mk b2; have HD3 := Aside0.mk d2; clear b1 b2 d1 d2)
      | (go_at_call 23; refine (calls_Calls_has.calls h A2 c2 l0 (k : Int) true _ (Kd.R_reads' HR3.out).2.2 (Kd.R_reads' HR3.out).2.1 HHAS.out).mono ?_; rintro e w4 ⟨rfl, hb4⟩; have HR4 := Aside0.mk (Kd.R_below HR3.out hb4); have HBW4 := Aside0.mk (below_step HBW3.out hb4); have HB4 := Aside0.mk (blk_below HB3.out hb4); have HD4 := Aside0.mk (blk_below HD3.out hb4); clear hb4 k0 k1 n0 n1 h0 h1 x0 x1 z0 z1; have n0 := (blk_cell HB4.out 0).trans (rfl : _ = some (Value.int .u32 h)); have n1 := (blk_cell HB4.out 1).trans (rfl : _ = some (Value.slice A2 l0.length c2)); have h0 := (blk_cell HD4.out 0).trans (rfl : _ = some (Value.int .u32 0)); have h1 := (blk_cell HD4.out 1).trans (rfl : _ = some (Value.slice none 0 0)); have x0 := blk_frozen HD4.out 0; have x1 := blk_frozen HD4.out 1; obtain ⟨g, c3, eA, hgb, hgl, cells, hgc⟩ := Kd.R_form HR4.out (by have := HK.out; omega); injection eA with eA1 eA2 eA3; subst eA1; subst eA3; obtain ⟨hc4, hf4⟩ := Kd.R_cell (0 : Int) HR4.out (k : Int) (by omega) (by have := HK.out; omega); rw [Int.toNat_natCast] at hc4 hf4; have hp := Kd.R_putg HR4.out (k : Int) (Go.bits .andNot .u32 (rdOf 0 l0 (k : Int)) bt); rw [Int.toNat_natCast] at hp; have HP := Aside0.mk hp.1; have HGB := Aside0.mk hgb; have hgG : G ≠ g := blk_ne HB4.out hgc (by decide); have hgH : G + 1 ≠ g := blk_ne HD4.out hgc (by decide); have v1 := blk_far HB4.out (p := ⟨g, k, none⟩) hgG (.int .u32 (Go.bits .andNot .u32 (rdOf 0 l0 (k : Int)) bt)); have v2 := blk_far HD4.out (p := ⟨g, k, none⟩) hgH (.int .u32 (Go.bits .andNot .u32 (rdOf 0 l0 (k : Int)) bt)); have V1 := Aside0.mk v1; have V2 := Aside0.mk v2; have o0 := (blk_cell v1 0).trans (rfl : _ = some (Value.int .u32 h)); have o1 := (blk_cell v1 1).trans (rfl : _ = some (Value.slice (some ⟨g, 0, none⟩) l0.length c2)); have o2 := (blk_cell v2 0).trans (rfl : _ = some (Value.int .u32 0)); have o3 := (blk_cell v2 1).trans (rfl : _ = some (Value.slice none 0 0)); have o4 := blk_frozen v2 0; have o5 := blk_frozen v2 1; clear hp v1 v2 hgb hgc hgl hgG hgH; have u1 := blk_put V1.out 0 (.int .u32 (Go.bits .andNot .u32 h bt)) (cs' := #[.int .u32 (Go.bits .andNot .u32 h bt), .slice (some ⟨g, 0, none⟩) l0.length c2]) rfl; have u2 := blk_far V2.out (p := ⟨G, 0, none⟩) (by simp) (.int .u32 (Go.bits .andNot .u32 h bt)); have U1 := Aside0.mk u1; have U2 := Aside0.mk u2; have s0 := (blk_cell u1 0).trans (rfl : _ = some (Value.int .u32 (Go.bits .andNot .u32 h bt))); have s1 := (blk_cell u1 1).trans (rfl : _ = some (Value.slice (some ⟨g, 0, none⟩) l0.length c2)); have s2 := (blk_cell u2 0).trans (rfl : _ = some (Value.int .u32 0)); have s3 := (blk_cell u2 1).trans (rfl : _ = some (Value.slice none 0 0)); have s4 := blk_frozen u2 0; have s5 := blk_frozen u2 1; have s6 := blk_frozen V1.out 0; clear u1 u2))
    have hg1 : w.heap.size ≤ G + 1 := Nat.le_succ_of_le HGG.out
    have f1 := blk_put V2.out 0 (.int .u32 h) (cs' := #[.int .u32 h, .slice none 0 0]) rfl
    have f2 := blk_put f1 1 (.slice (some ⟨g, 0, none⟩) l0.length c2) (cs' := #[.int .u32 h, .slice (some ⟨g, 0, none⟩) l0.length c2]) rfl
    have r5 := Kd.R_set (Kd.R_set HP.out V2.out HE.out 0 (.int .u32 h)) f1 HE.out 1 (.slice (some ⟨g, 0, none⟩) l0.length c2)
    have hB := below_set (j := 1) (v := (.slice (some ⟨g, 0, none⟩) l0.length c2)) (below_set (j := 0) (v := .int .u32 h) (below_set (j := k) (v := .int .u32 (Go.bits .andNot .u32 (rdOf 0 l0 (k : Int)) bt)) HBW4.out HGB.out) hg1) hg1
    generalize ((w4.setCell ⟨g, k, none⟩ (.int .u32 (Go.bits .andNot .u32 (rdOf 0 l0 (k : Int)) bt))).setCell ⟨G + 1, 0, none⟩ (.int .u32 h)).setCell ⟨G + 1, 1, none⟩ (.slice (some ⟨g, 0, none⟩) l0.length c2) = W5 at f2 r5 hB ⊢
    refine bodyPost_ret (results_cell_row rfl _ _ (G + 1) 27 #[.int .u32 h, .slice (some ⟨g, 0, none⟩) l0.length c2] (0, 0) _ rfl f2 Tryd.underlying27 rfl (by kernel_rfl)) rfl ?_
    exact ⟨some ⟨g, 0, none⟩, c2, rfl, r5, hB⟩
  | true =>
    go_enter Tryd.func14, Tryd.ntmps14
    go_upto_region 1 with (fail)
    obtain ⟨hB2, hB4, hbl⟩ := two_boxes w h A0 l0.length c0
    generalize hW : (w.alloc (.cells #[.int .u32 h, .slice A0 l0.length c0] 27)).alloc (.cells #[.int .u32 0, .slice none 0 0] 27) = W at hB2 hB4 hbl ⊢
    clear hW
    obtain ⟨G, hG⟩ : ∃ G, G = w.heap.size := ⟨_, rfl⟩
    have hG2 : w.heap.size + 1 = G + 1 := by rw [hG]
    rw [hG2] at hB4
    rw [← hG] at hB2
    have HGG := Aside0.mk (show w.heap.size ≤ G by rw [hG]; exact Nat.le_refl _)
    simp only [← hG, hG2]
    have HBG := Aside0.mk hB2
    have HBH := Aside0.mk hB4
    have HBW := Aside0.mk hbl
    have k0 := (blk_cell hB2 0).trans (rfl : _ = some (Value.int .u32 h))
    have k1 := (blk_cell hB2 1).trans (rfl : _ = some (Value.slice A0 l0.length c0))
    clear hG hG2 hB2 hB4 hbl
    go_wp2_with (first
      | (go_at_call 21; refine (calls_bit.calls fl 32 bt _ HBT.out).mono ?_; rintro e w1 ⟨rfl, hb1⟩; have HBW1 := Aside0.mk (below_step HBW.out hb1); have HBG1 := Aside0.mk (blk_below HBG.out hb1); have HBH1 := Aside0.mk (blk_below HBH.out hb1); clear hb1 k0 k1; have k0 := (blk_cell HBG1.out 0).trans (rfl : _ = some (Value.int .u32 h)); have k1 := (blk_cell HBG1.out 1).trans (rfl : _ = some (Value.slice A0 l0.length c0)))
      | (go_at_call 22; refine (own_calls h A0 c0 l0 _ (Kd.C_below HR0.out HBW1.out) HL.out).mono ?_; rintro e w2 ⟨A2, c2, rfl, hR2, hb2⟩; have HR2 := Aside0.mk (Kd.R_lower hR2 (below_size HBW1.out)); have HBW2 := Aside0.mk (below_step HBW1.out hb2); have HBG2 := Aside0.mk (blk_below HBG1.out hb2); have HBH2 := Aside0.mk (blk_below HBH1.out hb2); clear hR2 hb2 k0 k1; have k0 := (blk_cell HBG2.out 0).trans (rfl : _ = some (Value.int .u32 h)); have k1 := (blk_cell HBG2.out 1).trans (rfl : _ = some (Value.slice A0 l0.length c0)); have z0 := blk_frozen HBG2.out 0; have z1 := blk_frozen HBG2.out 1; have b1 := blk_put HBG2.out 0 (.int .u32 h) (cs' := #[.int .u32 h, .slice A0 l0.length c0]) rfl; have b2 := blk_put b1 1 (.slice A2 l0.length c2) (cs' := #[.int .u32 h, .slice A2 l0.length c2]) rfl; have n0 := (blk_cell b2 0).trans (rfl : _ = some (Value.int .u32 h)); have n1 := (blk_cell b2 1).trans (rfl : _ = some (Value.slice A2 l0.length c2)); have d1 := blk_far HBH2.out (p := ⟨G, 0, none⟩) (by simp) (.int .u32 h); have d2 := blk_far d1 (p := ⟨G, 1, none⟩) (by simp) (.slice A2 l0.length c2); have h0 := (blk_cell d2 0).trans (rfl : _ = some (Value.int .u32 0)); have h1 := (blk_cell d2 1).trans (rfl : _ = some (Value.slice none 0 0)); have x0 := blk_frozen d2 0; have x1 := blk_frozen d2 1; have HR3 := Aside0.mk (Kd.R_set (Kd.R_set HR2.out HBG2.out HE.out 0 (.int .u32 h)) b1 HE.out 1 (.slice A2 l0.length c2)); have HBW3 := Aside0.mk (below_set (j := 1) (v := .slice A2 l0.length c2) (below_set (j := 0) (v := .int .u32 h) HBW2.out HGG.out) HGG.out); have HB3 := Aside0.mk b2; have HD3 := Aside0.mk d2; clear b1 b2 d1 d2)
      | (go_at_call 23; refine (calls_Calls_has.calls h A2 c2 l0 (k : Int) true _ (Kd.R_reads' HR3.out).2.2 (Kd.R_reads' HR3.out).2.1 HHAS.out).mono ?_; rintro e w4 ⟨rfl, hb4⟩; have HR4 := Aside0.mk (Kd.R_below HR3.out hb4); have HBW4 := Aside0.mk (below_step HBW3.out hb4); have HB4 := Aside0.mk (blk_below HB3.out hb4); have HD4 := Aside0.mk (blk_below HD3.out hb4); clear hb4 k0 k1 n0 n1 h0 h1 x0 x1 z0 z1; have n0 := (blk_cell HB4.out 0).trans (rfl : _ = some (Value.int .u32 h)); have n1 := (blk_cell HB4.out 1).trans (rfl : _ = some (Value.slice A2 l0.length c2)); have h0 := (blk_cell HD4.out 0).trans (rfl : _ = some (Value.int .u32 0)); have h1 := (blk_cell HD4.out 1).trans (rfl : _ = some (Value.slice none 0 0)); have x0 := blk_frozen HD4.out 0; have x1 := blk_frozen HD4.out 1; obtain ⟨g, c3, eA, hgb, hgl, cells, hgc⟩ := Kd.R_form HR4.out (by have := HK.out; omega); injection eA with eA1 eA2 eA3; subst eA1; subst eA3; obtain ⟨hc4, hf4⟩ := Kd.R_cell (0 : Int) HR4.out (k : Int) (by omega) (by have := HK.out; omega); rw [Int.toNat_natCast] at hc4 hf4; have hp := Kd.R_putg HR4.out (k : Int) (Go.bits .andNot .u32 (rdOf 0 l0 (k : Int)) bt); rw [Int.toNat_natCast] at hp; have HP := Aside0.mk hp.1; have HGB := Aside0.mk hgb; have hgG : G ≠ g := blk_ne HB4.out hgc (by decide); have hgH : G + 1 ≠ g := blk_ne HD4.out hgc (by decide); have v1 := blk_far HB4.out (p := ⟨g, k, none⟩) hgG (.int .u32 (Go.bits .andNot .u32 (rdOf 0 l0 (k : Int)) bt)); have v2 := blk_far HD4.out (p := ⟨g, k, none⟩) hgH (.int .u32 (Go.bits .andNot .u32 (rdOf 0 l0 (k : Int)) bt)); have V1 := Aside0.mk v1; have V2 := Aside0.mk v2; have o0 := (blk_cell v1 0).trans (rfl : _ = some (Value.int .u32 h)); have o1 := (blk_cell v1 1).trans (rfl : _ = some (Value.slice (some ⟨g, 0, none⟩) l0.length c2)); have o2 := (blk_cell v2 0).trans (rfl : _ = some (Value.int .u32 0)); have o3 := (blk_cell v2 1).trans (rfl : _ = some (Value.slice none 0 0)); have o4 := blk_frozen v2 0; have o5 := blk_frozen v2 1; clear hp v1 v2 hgb hgc hgl hgG hgH; have u1 := blk_put V1.out 0 (.int .u32 (Go.bits .andNot .u32 h bt)) (cs' := #[.int .u32 (Go.bits .andNot .u32 h bt), .slice (some ⟨g, 0, none⟩) l0.length c2]) rfl; have u2 := blk_far V2.out (p := ⟨G, 0, none⟩) (by simp) (.int .u32 (Go.bits .andNot .u32 h bt)); have U1 := Aside0.mk u1; have U2 := Aside0.mk u2; have s0 := (blk_cell u1 0).trans (rfl : _ = some (Value.int .u32 (Go.bits .andNot .u32 h bt))); have s1 := (blk_cell u1 1).trans (rfl : _ = some (Value.slice (some ⟨g, 0, none⟩) l0.length c2)); have s2 := (blk_cell u2 0).trans (rfl : _ = some (Value.int .u32 0)); have s3 := (blk_cell u2 1).trans (rfl : _ = some (Value.slice none 0 0)); have s4 := blk_frozen u2 0; have s5 := blk_frozen u2 1; have s6 := blk_frozen V1.out 0; clear u1 u2))
    have hg1 : w.heap.size ≤ G + 1 := Nat.le_succ_of_le HGG.out
    have f1 := blk_put U2.out 0 (.int .u32 (Go.bits .andNot .u32 h bt)) (cs' := #[.int .u32 (Go.bits .andNot .u32 h bt), .slice none 0 0]) rfl
    have f2 := blk_put f1 1 (.slice (some ⟨g, 0, none⟩) l0.length c2) (cs' := #[.int .u32 (Go.bits .andNot .u32 h bt), .slice (some ⟨g, 0, none⟩) l0.length c2]) rfl
    have r5 := Kd.R_set (Kd.R_set (Kd.R_set HP.out V1.out HE.out 0 (.int .u32 (Go.bits .andNot .u32 h bt))) U2.out HE.out 0 (.int .u32 (Go.bits .andNot .u32 h bt))) f1 HE.out 1 (.slice (some ⟨g, 0, none⟩) l0.length c2)
    have hB := below_set (j := 1) (v := (.slice (some ⟨g, 0, none⟩) l0.length c2)) (below_set (j := 0) (v := .int .u32 (Go.bits .andNot .u32 h bt)) (below_set (j := 0) (v := .int .u32 (Go.bits .andNot .u32 h bt)) (below_set (j := k) (v := .int .u32 (Go.bits .andNot .u32 (rdOf 0 l0 (k : Int)) bt)) HBW4.out HGB.out) HGG.out) hg1) hg1
    generalize (((w4.setCell ⟨g, k, none⟩ (.int .u32 (Go.bits .andNot .u32 (rdOf 0 l0 (k : Int)) bt))).setCell ⟨G, 0, none⟩ (.int .u32 (Go.bits .andNot .u32 h bt))).setCell ⟨G + 1, 0, none⟩ (.int .u32 (Go.bits .andNot .u32 h bt))).setCell ⟨G + 1, 1, none⟩ (.slice (some ⟨g, 0, none⟩) l0.length c2) = W5 at f2 r5 hB ⊢
    refine bodyPost_ret (results_cell_row rfl _ _ (G + 1) 27 #[.int .u32 (Go.bits .andNot .u32 h bt), .slice (some ⟨g, 0, none⟩) l0.length c2] (0, 0) _ rfl f2 Tryd.underlying27 rfl (by kernel_rfl)) rfl ?_
    exact ⟨some ⟨g, 0, none⟩, c2, rfl, r5, hB⟩
end Go.Proofs.YthjmlmognbenoaaDoor.PAll
end

/- The walk of bits.OnesCount32, by hand (no statement stands here). -/
section
namespace Go.Proofs.YthjmlmognbenoaaDoor.PAll
open Go.RowKit Go.Proofs.YthjmlmognbenoaaDoorW.PrintWords Go.Proofs.YthjmlmognbenoaaDoorW.PrintLast Go.Proofs.YthjmlmognbenoaaDoorW.PrintMore
set_option linter.unusedVariables false
set_option linter.unusedSimpArgs false
/-- How many bits are 1. -/
def popN : Nat → Nat → Nat
  | 0, _ => 0
  | k + 1, n => n % 2 + popN k (n / 2)
theorem and255 (y : Int) (h : 0 ≤ y ∧ y < 4294967296) : Go.bits .and .u32 y 255 = y % 256 := by
  obtain ⟨n, rfl⟩ := Int.eq_ofNat_of_zero_le h.1
  have e : Go.bits .and .u32 (n : Int) 255 = IntKind.u32.wrap (((BitVec.ofInt 32 (n : Int) &&& BitVec.ofInt 32 255).toNat : Nat) : Int) := rfl
  rw [e, BitVec.toNat_and, BitVec.ofInt_natCast, BitVec.toNat_ofNat, show (BitVec.ofInt 32 255).toNat = 2 ^ 8 - 1 from rfl, Nat.and_two_pow_sub_one_eq_mod, IntKind.wrap_u32]
  omega
theorem tab_at (T : ByteArray) (hs : T.size = 256) (hT : (List.range 256).all (fun k => (T.data.getD k 0).toNat == popN 8 k) = true) (k : Nat) (h : k < T.size) : T[k].toNat = popN 8 k := by
  have h1 := List.all_eq_true.1 hT k (List.mem_range.2 (by omega))
  have h2 : T.data.getD k 0 = T[k] := by
    have : k < T.data.size := h
    rw [Array.getD_eq_getD_getElem?, Array.getElem?_eq_getElem this, Option.getD_some]
    rfl
  rw [h2] at h1
  simpa using h1
theorem pop8_le (k : Nat) : popN 8 k ≤ 8 := by
  simp only [popN]
  omega
def onesI (x : Int) : Int := (popN 8 (x / 16777216).toNat : Int) + popN 8 (x / 65536 % 256).toNat + popN 8 (x / 256 % 256).toNat + popN 8 (x % 256).toNat
set_option maxRecDepth 100000 in
set_option maxHeartbeats 4000000 in
theorem ones_calls (x : Int) (hx : 0 ≤ x ∧ x < 4294967296) (w : World) :
    Calls Tryd.prog 25 #[.int .u32 x] w fun e w' => e = .returned (.int .i64 (onesI x)) ∧ Drawn0 w w' := by
  have p1 : ((0 : Int) ≤ x / 16777216) = True := eq_true (by omega)
  have q1 : (x / 16777216 < (256 : Int)) = True := eq_true (by omega)
  have hA := and255 (x / 65536) (by omega)
  have hB := and255 (x / 256) (by omega)
  have hC := and255 x hx
  have p2 : ((0 : Int) ≤ x / 65536 % 256) = True := eq_true (by omega)
  have q2 : (x / 65536 % 256 < (256 : Int)) = True := eq_true (by omega)
  have p3 : ((0 : Int) ≤ x / 256 % 256) = True := eq_true (by omega)
  have q3 : (x / 256 % 256 < (256 : Int)) = True := eq_true (by omega)
  have p4 : ((0 : Int) ≤ x % 256) = True := eq_true (by omega)
  have q4 : (x % 256 < (256 : Int)) = True := eq_true (by omega)
  clear hx
  go_enter Tryd.func25, Tryd.ntmps25
  go_wp2
  go_quiet (fail)
  go_wp2
  go_ret
  refine ⟨?_, by repeat (first | exact Drawn0.refl _ | apply Drawn0.step)⟩
  show Ending.returned (Value.int IntKind.i64 (_ % 256)) = _
  rw [tab_at _ (by decide +kernel) (by decide +kernel) (x / 16777216).toNat, tab_at _ (by decide +kernel) (by decide +kernel) (x / 65536 % 256).toNat, tab_at _ (by decide +kernel) (by decide +kernel) (x / 256 % 256).toNat, tab_at _ (by decide +kernel) (by decide +kernel) (x % 256).toNat]
  have e1 := pop8_le (x / 16777216).toNat
  have e2 := pop8_le (x / 65536 % 256).toNat
  have e3 := pop8_le (x / 256 % 256).toNat
  have e4 := pop8_le (x % 256).toNat
  congr 2
  unfold onesI
  omega
end Go.Proofs.YthjmlmognbenoaaDoor.PAll
end

/- The walk of (Calls).Many, by hand (no statement stands here). -/
section
namespace Go.Proofs.YthjmlmognbenoaaDoor.PAll
open Go.RowKit Go.Proofs.YthjmlmognbenoaaDoorW.PrintWords Go.Proofs.YthjmlmognbenoaaDoorW.PrintLast Go.Proofs.YthjmlmognbenoaaDoorW.PrintMore
set_option linter.unusedVariables false
set_option linter.unusedSimpArgs false
def onesL (l : List Int) : Int := (l.map onesI).sum
theorem onesI_le (x : Int) : 0 ≤ onesI x ∧ onesI x ≤ 32 := by
  have e1 := pop8_le (x / 16777216).toNat
  have e2 := pop8_le (x / 65536 % 256).toNat
  have e3 := pop8_le (x / 256 % 256).toNat
  have e4 := pop8_le (x % 256).toNat
  unfold onesI
  omega
theorem onesL_le (l : List Int) : 0 ≤ onesL l ∧ onesL l ≤ 32 * l.length := by
  induction l with
  | nil => simp [onesL]
  | cons x xs ih =>
    have := onesI_le x
    simp only [onesL, List.map_cons, List.sum_cons, List.length_cons] at ih ⊢
    omega
theorem onesL_take (l : List Int) (i : Nat) (h : i < l.length) : onesL (l.take (i + 1)) = onesL (l.take i) + onesI (rd l (i : Int)) := by
  have hr : rd l (i : Int) = l[i] := by unfold rd; rw [Int.toNat_natCast, List.getD_eq_getElem?_getD, List.getElem?_eq_getElem h, Option.getD_some]
  rw [hr]
  unfold onesL
  rw [List.take_add_one, List.getElem?_eq_getElem h, List.map_append, List.sum_append]
  simp
theorem many_w (x : Int) (h : -4611686018427387904 ≤ x ∧ x ≤ 4611686018427387904) : wrap64 x = x := by unfold wrap64; omega
theorem many_sum (a s y T : Int) (n : Nat) (hT : T = s + y) (ha : 0 ≤ a ∧ a ≤ 32) (hb : 0 ≤ T ∧ T ≤ 32 * n) (hn : n ≤ 1000000) : wrap64 (a + s + y) = a + T := by
  have e : a + s + y = a + T := by omega
  rw [e]
  exact many_w (a + T) (by omega)
theorem many_wi (i : Nat) (h : i ≤ 1000000) : wrap64 ((i : Int) + 1) = ((i + 1 : Nat) : Int) := (many_w ((i : Int) + 1) (by omega)).trans (by omega)
set_option maxRecDepth 100000 in
set_option maxHeartbeats 4000000 in
theorem Many_calls (h : Int) (A0 : Option Addr) (c0 : Nat) (l0 : List Int) (w : World) (hr0 : Kd.C (Kd.int .u32) w A0 l0.length l0) (hl : l0.length ≤ 1000000) (hh : 0 ≤ h ∧ h < 4294967296) (hb : ∀ x ∈ l0, 0 ≤ x ∧ x < 4294967296) :
    Calls Tryd.prog 18 #[.agg #[.int .u32 h, .slice A0 l0.length c0]] w fun e w' => e = .returned (.int .i64 (onesI h + onesL l0)) ∧ Below w.heap.size w w' := by
  have hu27 := Tryd.underlying27
  have HR0 := Aside0.mk hr0
  have HL := Aside0.mk hl
  have HH := Aside0.mk hh
  have HBB := Aside0.mk hb
  have HG0 := Aside0.mk (blk_new w (.cells #[.int .u32 h, .slice A0 l0.length c0] 27))
  have HB0 := Aside0.mk (below_alloc (Below.refl w.heap.size w) (.cells #[.int .u32 h, .slice A0 l0.length c0] 27))
  clear hr0 hl hh hb
  go_enter Tryd.func18, Tryd.ntmps18
  go_wp2_with (first | (go_at_call 25; refine (ones_calls h HH.out _).mono ?_; rintro e w' ⟨rfl, ⟨nd, rfl⟩⟩))
  go_loopg [3, 12] l0.length (fun g v3 v12 w' => ∃ i : Nat, v12 = .int .i64 i ∧ v3 = .int .i64 (onesI h + onesL (l0.take i)) ∧ Aside0 (g + i = l0.length) ∧ Aside0 (Below w.heap.size w w'))
  case atStart => exact ⟨0, rfl, by simp [onesL], ⟨by omega⟩, ⟨pw_below_drewN HB0.out _⟩⟩
  case round =>
    clear HB0 HG0
    obtain ⟨i, rfl, rfl, HI, HB⟩ := hrel
    cases gk with
    | zero =>
      have hlt : decide ((i : Int) < (l0.length : Int)) = false := decide_eq_false (by have := HI.out; omega)
      have hi : i = l0.length := by have := HI.out; omega
      subst hi
      rw [List.take_length]
      go_wp2
      go_ret
      exact ⟨rfl, HB.out⟩
    | succ gko =>
      have hilt : i < l0.length := by have := HI.out; omega
      have hlt : decide ((i : Int) < (l0.length : Int)) = true := decide_eq_true (by omega)
      obtain ⟨ad1, e1, hx1⟩ := Kd.at_int HR0.out (i : Int) (by omega) (by omega)
      cases e1
      rw [Int.toNat_natCast] at hx1
      replace hx1 := (HB.out.cell (World.block_lt_of_cell? w _ hx1)).trans hx1
      have hr : rd l0 (i : Int) = l0[i] := by unfold rd; rw [Int.toNat_natCast, List.getD_eq_getElem?_getD, List.getElem?_eq_getElem hilt, Option.getD_some]
      have hbx : 0 ≤ rd l0 (i : Int) ∧ rd l0 (i : Int) < 4294967296 := by rw [hr]; exact HBB.out _ (List.getElem_mem hilt)
      have p1 : ((0 : Int) ≤ (i : Int)) = True := eq_true (by omega)
      have q1 : ((i : Int) < (l0.length : Int)) = True := eq_true (by omega)
      have hst := onesL_take l0 i hilt
      have hw : wrap64 (onesI h + onesL (l0.take i) + onesI (rd l0 (i : Int))) = onesI h + onesL (l0.take (i + 1)) := many_sum _ _ _ _ (l0.take (i + 1)).length hst (onesI_le h) (onesL_le _) (Nat.le_trans (List.length_take_le' _ _) HL.out)
      have hw2 : IntKind.i64.wrap (onesI h + onesL (l0.take i) + onesI (rd l0 (i : Int))) = onesI h + onesL (l0.take (i + 1)) := (i64_w _).trans hw
      have hwi := many_wi i (Nat.le_trans (Nat.le_of_lt hilt) HL.out)
      have HBX := Aside0.mk hbx
      clear hst hr hilt hbx
      generalize rd l0 (i : Int) = x at hx1 hw hw2 HBX
      go_wp2_with (first | (go_at_call 25; refine (ones_calls x HBX.out _).mono ?_; rintro e w' ⟨rfl, ⟨nd, rfl⟩⟩))
      go_roundg gko
      case measure => omega
      case rel => exact ⟨i + 1, by rw [hwi], by first | rfl | rw [hw], ⟨by have := HI.out; omega⟩, ⟨pw_below_drewN HB.out _⟩⟩
end Go.Proofs.YthjmlmognbenoaaDoor.PAll
end

/- Plain lemmas on bits (no statement stands here). -/
section
namespace Go.Proofs.YthjmlmognbenoaaDoor.PAll
set_option linter.unusedVariables false
theorem popN_add (b : Nat) : ∀ (a n : Nat), popN (a + b) n = popN a n + popN b (n / 2 ^ a)
  | 0, n => by simp [popN]
  | a + 1, n => by
    rw [show a + 1 + b = (a + b) + 1 by omega]
    simp only [popN]
    rw [popN_add b a (n / 2), Nat.div_div_eq_div_mul, Nat.pow_succ, Nat.mul_comm 2, Nat.add_assoc]
theorem popN_mod : ∀ (a n : Nat), popN a (n % 2 ^ a) = popN a n
  | 0, n => by simp [popN]
  | a + 1, n => by
    simp only [popN]
    rw [Nat.pow_succ, Nat.mul_comm, Nat.mod_mul_right_mod, Nat.mod_mul_right_div_self, popN_mod a (n / 2)]
theorem onesI_pop (n : Nat) (h : n < 4294967296) : onesI (n : Int) = (popN 32 n : Int) := by
  have h1 : popN 32 n = popN 8 n + (popN 8 (n / 256) + (popN 8 (n / 65536) + popN 8 (n / 16777216))) := by
    rw [show (32 : Nat) = 8 + 24 from rfl, popN_add 24 8 n, show (24 : Nat) = 8 + 16 from rfl, popN_add 16 8 (n / 2 ^ 8), show (16 : Nat) = 8 + 8 from rfl, popN_add 8 8 (n / 2 ^ 8 / 2 ^ 8), Nat.div_div_eq_div_mul, Nat.div_div_eq_div_mul]
  have e0 : ((n : Int) % 256).toNat = n % 256 := by omega
  have e1 : ((n : Int) / 256 % 256).toNat = n / 256 % 256 := by omega
  have e2 : ((n : Int) / 65536 % 256).toNat = n / 65536 % 256 := by omega
  have e3 : ((n : Int) / 16777216).toNat = n / 16777216 := by omega
  have m0 : popN 8 (n % 256) = popN 8 n := popN_mod 8 n
  have m1 : popN 8 (n / 256 % 256) = popN 8 (n / 256) := popN_mod 8 _
  have m2 : popN 8 (n / 65536 % 256) = popN 8 (n / 65536) := popN_mod 8 _
  unfold onesI
  rw [e0, e1, e2, e3, m0, m1, m2, h1]
  generalize popN 8 n = a
  generalize popN 8 (n / 256) = b
  generalize popN 8 (n / 65536) = c
  generalize popN 8 (n / 16777216) = d
  omega
end Go.Proofs.YthjmlmognbenoaaDoor.PAll
end

/- A range over an iterator that writes a box of its own between two rounds (no statement stands here). -/
section
namespace Go.Proofs.YthjmlmognbenoaaDoor.PAll
open Go.RowKit Go.Shelf
set_option linter.unusedVariables false
variable {F : Fence} {n : Nat} {P : Program}
/-- The iterator's word: block B, one cell, is its own, and turns between two rounds. -/
def SeqTurns {α : Type} (F : Fence) (n : Nat) (P : Program) (g : Nat) (lb : Array Value) (encs : α → Array Value) (Kp : World → World → Prop) (B : Nat) (S Sp : List α → Prop) (w : World) : Prop :=
  ∀ (l : Nat) (J Jx : List α → World → Prop) (W : World), Below w.heap.size w W → AbidesFrom W.heap.size J → AbidesFrom W.heap.size Jx →
    (∀ pre X v, J pre X → J pre (X.setCell ⟨B, 0, none⟩ v)) →
    (∀ pre x W1, J pre W1 → YieldAt F (n - 1) P l (encs x) W1 fun e W' => (e = .returned (.bool true) ∧ J (pre ++ [x]) W' ∧ Kp W1 W') ∨ (e = .returned (.bool false) ∧ Jx (pre ++ [x]) W')) →
    J [] W →
    CallsIn F n P g (#[.func (.yield l) #[] #[]] ++ lb) W fun e W' => (∃ v, e = .returned v) ∧ ((∃ xs, S xs ∧ J xs W') ∨ (∃ pre, Sp pre ∧ Jx pre W'))
/-- The statement over such an iterator: the caller's word abides the turns of block B, which lay ahead of the loop. -/
theorem wpIn_rangeFunc_turns {α : Type} {g : Operand} {ps : Array Tmp} {assign body : Code} {Q : Exit → Act → World → Prop} {a : Act} {w : World}
    (hro : F.round = none) (h1 : 1 ≤ n) {gf : Nat} {lb : Array Value} (hg : a.eval g = .func (.func gf) #[] lb) (hFg : F.fn gf) (eg : ∀ args w, (callFunc gf args).run P w = .ok (.enter gf args) w)
    {encs : α → Array Value} {Kp : World → World → Prop} {B : Nat} {S Sp : List α → Prop} {w0 : World} (hseq : SeqTurns F (n - 1) P gf lb encs Kp B S Sp w0) (hBlt : B < w.heap.size)
    (hKt : ∀ {X Y Z : World}, Kp X Y → Kp Y Z → Kp X Z) (hKb : ∀ (W : World) (l : Nat) (o o' : Obj), w.heap.size ≤ l → W.heap[l]? = some o → o.isCells = false → o.isWalk = false → Kp W (W.putObj l o')) (hb0 : Below w0.heap.size w0 w) (hps : ∀ x, (encs x).size = ps.size)
    (I : List α → World → Prop) (Ix : Code → List α → World → Prop) (hI : OwnFrom w.heap.size I) (hIx : ∀ c, OwnFrom w.heap.size (Ix c)) (hIB : ∀ pre X v, I pre X → I pre (X.setCell ⟨B, 0, none⟩ v)) (h0 : I [] w) (a₁ : α → Act)
    (hassign : ∀ (l : Nat) (x : α) (W : World) (K : Act → World → Prop), K (a₁ x) W →
      assign.wpIn (F.inRound l) (n - 1 - 1) P (Exit.then K (fun _ _ _ => False)) { tmps := (ps.zip (encs x)).foldl (fun t (p, v) => t.setIfInBounds p v) a.tmps, defers := [] } W)
    (hbody : ∀ (l : Nat) (pre : List α) (x : α) (W : World), I pre W → body.wpIn (F.inRound l) (n - 1 - 1) P (ownPostG w.heap.size Kp I Ix (pre ++ [x]) W) (a₁ x) W)
    (hdone : ∀ (D : Nat) (xs : List α) (W : World), w.heap.size ≤ D → S xs → I xs W → W.heap[D]? = some (.deferred (some [])) → Q .normal { a with defers := { target := .collected D, args := #[] } :: a.defers } W)
    (hstop : ∀ (D : Nat) (c : Code) (pre : List α) (W : World), w.heap.size ≤ D → Sp pre → Ix c pre W → W.heap[D]? = some (.deferred (some [])) → c.wpIn F n P Q { a with defers := { target := .collected D, args := #[] } :: a.defers } W) :
    (Code.rangeFunc g ps assign body).wpIn F n P Q a w := by
  refine wpIn_rangeFunc ?_
  intro fn hfn
  rw [hro]
  obtain ⟨s, hs⟩ : ∃ s, w.heap.size = s := ⟨_, rfl⟩
  obtain ⟨rec, hrec⟩ : ∃ rec : LoopState → Option Code → Loop, rec = fun st pe => { state := st, pending := pe, fn, tmps := a.tmps, params := ps, assign, body, defers := s } := ⟨_, rfl⟩
  obtain ⟨W1, hW1⟩ : ∃ W1, (w.alloc (.deferred (some []))).alloc (.loop (rec .ready none)) = W1 := ⟨_, rfl⟩
  have hz : W1.heap.size = s + 2 := by rw [← hW1]; simp; omega
  have hL1 : W1.heap[s + 1]? = some (.loop (rec .ready none)) := by
    have := World.alloc_heap_new (w.alloc (.deferred (some []))) (.loop (rec .ready none))
    rwa [World.size_alloc, hW1, hs] at this
  have hD1 : W1.heap[s]? = some (.deferred (some [])) := by
    rw [← hW1, ← hs]; exact (Below.heap_alloc _ _ _ (by simp)).trans (World.alloc_heap_new w _)
  have hI1 : I [] W1 := by rw [← hW1]; exact hI.alloc _ (hI.alloc _ h0)
  have hb1 : Below w0.heap.size w0 W1 := by
    rw [← hW1]; exact hb0.trans ((((Below.refl _ w).alloc (Nat.le_refl _) _).alloc (by simp) _).mono hb0.size)
  rw [hs] at hI hIx hBlt hKb hbody hdone hstop
  -- what the record's and the block's two facts abide
  have hput : ∀ (k : Nat) (o o' : Obj) (W : World), k ≠ s → W.heap[s]? = some o → (W.putObj k o').heap[s]? = some o := fun k o o' W hk h => (World.putObj_heap_other (fun e => hk e.symm)).trans h
  refine ⟨s + 1, [{ target := .collected s, args := #[] }], W1, { target := .fn (.func gf) lb, args := #[.func (.yield (s + 1)) #[] #[]] }, W1, gf, #[.func (.yield (s + 1)) #[] #[]] ++ lb, W1, ?_, ?_, ?_, ?_, fun _ => h1, ?_⟩
  · rw [← hW1, hrec, ← hs]; exact run_enterLoop_outer _ _ _ _ _
  · simp only [resolve, hg]
    simp [go_sem]
  · intro f' hf'; simp [Target.leads] at hf'; subst hf'; exact hFg
  · simp [invoke, go_sem, eg]
  · have far : ∀ {A : World} {row : Option Nat}, (∀ r, row = some r → W1.heap.size ≤ r ∧ ∃ o : Obj, A.heap[r]? = some o ∧ o.isWalk = true) → (∀ r, row = some r → s ≤ r ∧ ∃ o : Obj, A.heap[r]? = some o ∧ o.isCells = false) :=
      fun hr r e => by obtain ⟨hB, o, ho, hw⟩ := hr r e; exact ⟨by omega, o, ho, Obj.not_cells_of_walk hw⟩
    refine (hseq (s + 1)
      (fun pre W => I pre W ∧ W.heap[s + 1]? = some (.loop (rec .ready none)) ∧ W.heap[s]? = some (.deferred (some [])))
      (fun pre W => ∃ c, Ix c pre W ∧ W.heap[s + 1]? = some (.loop (rec .done (some c))) ∧ W.heap[s]? = some (.deferred (some [])))
      W1 hb1 ?_ ?_ ?_ ?_ ⟨hI1, hL1, hD1⟩).mono ?_
    · rintro pre A A' row ⟨i1, i2, i3⟩ hg' hr
      exact ⟨hI pre A A' row i1 hg' (far hr), (grownBy_keeps hg' (fun r e => (hr r e).2) i2 rfl).trans i2, (grownBy_keeps hg' (fun r e => (hr r e).2) i3 rfl).trans i3⟩
    · rintro pre A A' row ⟨c, i1, i2, i3⟩ hg' hr
      exact ⟨c, hIx c pre A A' row i1 hg' (far hr), (grownBy_keeps hg' (fun r e => (hr r e).2) i2 rfl).trans i2, (grownBy_keeps hg' (fun r e => (hr r e).2) i3 rfl).trans i3⟩
    · rintro pre X v ⟨i1, i2, i3⟩
      exact ⟨hIB pre X v i1, (Below.heap_setCell _ _ _ _ (by show s + 1 ≠ B; omega)).trans i2, (Below.heap_setCell _ _ _ _ (by show s ≠ B; omega)).trans i3⟩
    · rintro pre x W ⟨i1, i2, i3⟩
      have hlt : s + 1 < W.heap.size := (Array.getElem?_eq_some_iff.1 i2).1
      have hy := run_yield (P := P) (args := encs x) i2 (by rw [hrec]; exact hps x)
      rw [hrec] at hy
      refine ⟨fn, _, assign, body, hy, roundIn_of_wpIn hfn (hassign _ x W _ ⟨_, run_beginRound i2 (by rw [hrec]), ?_⟩)⟩
      obtain ⟨W2, hW2⟩ : ∃ W2, W.putObj (s + 1) (.loop { rec .ready none with state := .busy }) = W2 := ⟨_, rfl⟩
      have j1 : I pre W2 := by rw [← hW2]; exact hI.putObj _ i1 (by omega) i2 rfl
      have j2 : W2.heap[s + 1]? = some (.loop { rec .ready none with state := .busy }) := by rw [← hW2]; exact World.putObj_heap_same hlt
      have j3 : W2.heap[s]? = some (.deferred (some [])) := by rw [← hW2]; exact hput _ _ _ _ (by omega) i3
      have j4 : Kp W W2 := by rw [← hW2]; exact hKb _ _ _ _ (by omega) i2 rfl rfl
      have bd := hbody (s + 1) pre x W2 j1
      rw [← hW2] at bd
      refine wpIn_mono bd ?_
      rw [hW2]
      have fin : ∀ (jump : Option Code) (W3 : World), KeepsFrom s W2 W3 →
          (Instr.endRound (s + 1) jump).run P W3 = .ok (.bool jump.isNone) (W3.putObj (s + 1) (.loop (rec (if jump.isNone then .ready else .done) jump))) ∧
          W3.heap[s + 1]? = some (.loop { rec .ready none with state := .busy }) ∧
          (W3.putObj (s + 1) (.loop (rec (if jump.isNone then .ready else .done) jump))).heap[s + 1]? = some (.loop (rec (if jump.isNone then .ready else .done) jump)) ∧
          (W3.putObj (s + 1) (.loop (rec (if jump.isNone then .ready else .done) jump))).heap[s]? = some (.deferred (some [])) := fun jump W3 hk3 => by
        have hl3 := hk3.same _ _ (by omega) j2 rfl
        have hr := run_endRound (P := P) jump hl3
        rw [hrec] at hr ⊢
        exact ⟨hr, by rw [hrec] at hl3; exact hl3, World.putObj_heap_same (Array.getElem?_eq_some_iff.1 hl3).1, hput _ _ _ _ (by omega) (hk3.same _ _ (Nat.le_refl _) j3 rfl)⟩
      have out : ∀ (c : Code) (W3 : World), KeepsFrom s W2 W3 → Ix c (pre ++ [x]) W3 → ∃ c', Ix c' (pre ++ [x]) (W3.putObj (s + 1) (.loop (rec .done (some c)))) ∧ (W3.putObj (s + 1) (.loop (rec .done (some c)))).heap[s + 1]? = some (.loop (rec .done (some c'))) ∧ (W3.putObj (s + 1) (.loop (rec .done (some c)))).heap[s]? = some (.deferred (some [])) := fun c W3 hk3 hi3 => by
        obtain ⟨_, hl3, hl4, hd4⟩ := fin (some c) W3 hk3
        exact ⟨c, (hIx c).putObj _ hi3 (by omega) hl3 rfl, hl4, hd4⟩
      rintro e a3 W3 hp
      cases e with
      | normal =>
        obtain ⟨hk3, hkp3, hi3⟩ := hp
        obtain ⟨hr, hl3, hl4, hd4⟩ := fin none W3 hk3
        exact ⟨_, _, hr, .inl ⟨rfl, ⟨hI.putObj _ hi3 (by omega) hl3 rfl, hl4, hd4⟩, hKt (hKt j4 hkp3) (hKb _ _ _ _ (by omega) hl3 rfl rfl)⟩⟩
      | ret => exact ⟨_, _, (fin (some .ret) W3 hp.1).1, .inr ⟨rfl, out .ret W3 hp.1 hp.2⟩⟩
      | exit id => exact ⟨_, _, (fin (some (.exit id)) W3 hp.1).1, .inr ⟨rfl, out (.exit id) W3 hp.1 hp.2⟩⟩
      | goto t => exact ⟨_, _, (fin (some (.goto t)) W3 hp.1).1, .inr ⟨rfl, out (.goto t) W3 hp.1 hp.2⟩⟩
      | panic ch => exact hp.elim
      | outgrown => exact hp.elim
    · rintro e W2 ⟨⟨v, rfl⟩, (⟨xs, hS, hi, hl, hk⟩ | ⟨pre, hSp, c, hi, hl, hk⟩)⟩
      · refine ⟨none, _, by have := run_endLoop (P := P) hl (by rw [hrec]; simp); rw [hrec] at this; exact this, hdone s xs _ (Nat.le_refl _) hS (hI.putObj _ hi (by omega) hl rfl) (hput _ _ _ _ (by omega) hk)⟩
      · refine ⟨some c, _, by have := run_endLoop (P := P) hl (by rw [hrec]; simp); rw [hrec] at this; exact this, hstop s c pre _ (Nat.le_refl _) hSp ((hIx c).putObj _ hi (by omega) hl rfl) (hput _ _ _ _ (by omega) hk)⟩
end Go.Proofs.YthjmlmognbenoaaDoor.PAll
end

/- The walk of bits.TrailingZeros32, by hand (no statement stands here). -/
section
namespace Go.Proofs.YthjmlmognbenoaaDoor.PAll
open Go.RowKit Go.Proofs.YthjmlmognbenoaaDoorW.PrintWords Go.Proofs.YthjmlmognbenoaaDoorW.PrintLast Go.Proofs.YthjmlmognbenoaaDoorW.PrintMore
set_option linter.unusedVariables false
set_option linter.unusedSimpArgs false
def dbL : List Int := [0, 1, 28, 2, 29, 14, 24, 3, 30, 22, 20, 15, 25, 17, 4, 8, 31, 27, 13, 23, 21, 19, 16, 7, 26, 12, 18, 6, 11, 5, 10, 9]
/-- The table's cells hold what is laid. -/
def Deb (w : World) : Prop := ∀ i : Nat, i < 32 → w.cell? ⟨0, i, none⟩ = some (.int .u8 (dbL.getD i 0))
/-- The lowest bit that is 1. -/
def tzN : Nat → Nat → Nat
  | 0, _ => 0
  | k + 1, n => if n % 2 = 1 then 0 else tzN k (n / 2) + 1
theorem tz_form (f : Nat) : ∀ n, 0 < n → n < 2 ^ f → ∃ m, n = 2 ^ tzN f n * (2 * m + 1) ∧ tzN f n < f := by
  induction f with
  | zero => intro n h0 h1; simp at h1; omega
  | succ f ih =>
    intro n h0 h1
    unfold tzN
    split
    · exact ⟨n / 2, by rw [Nat.pow_zero]; omega, by omega⟩
    · rename_i hc
      obtain ⟨m, hm, hk⟩ := ih (n / 2) (by omega) (by rw [Nat.pow_succ] at h1; omega)
      refine ⟨m, ?_, by omega⟩
      have e : n = 2 * (n / 2) := by omega
      rw [Nat.pow_succ, Nat.mul_right_comm, ← hm]
      omega
theorem low_bit (k m n : Nat) (hk : k ≤ n) (hlt : 2 ^ k * (2 * m + 1) < 2 ^ n) : (2 ^ k * (2 * m + 1)) &&& (2 ^ n - 2 ^ k * (2 * m + 1)) = 2 ^ k := by
  apply Nat.eq_of_testBit_eq
  intro i
  have e : 2 ^ n - 2 ^ k * (2 * m + 1) = 2 ^ k * (2 ^ (n - k) - (2 * m + 1)) := by
    rw [Nat.mul_sub, ← Nat.pow_add, Nat.add_sub_cancel' hk]
  rw [e, Nat.testBit_and, Nat.testBit_two_pow_mul, Nat.testBit_two_pow_mul, Nat.testBit_two_pow]
  by_cases hi : k ≤ i
  · have h2 : 2 * m < 2 ^ (n - k) := by
      have : 2 ^ k * (2 * m + 1) < 2 ^ k * 2 ^ (n - k) := by rw [← Nat.pow_add, Nat.add_sub_cancel' hk]; exact hlt
      have := Nat.lt_of_mul_lt_mul_left this
      omega
    rw [Nat.testBit_two_pow_sub_succ h2]
    simp only [hi, decide_true, Bool.true_and]
    by_cases he : i = k
    · subst he
      have hnk : 0 < n - i := by
        rcases Nat.eq_zero_or_pos (n - i) with h0 | h0
        · have hni : n = i := by omega
          rw [hni] at hlt
          have : 2 ^ i * 1 ≤ 2 ^ i * (2 * m + 1) := Nat.mul_le_mul_left _ (by omega)
          omega
        · exact h0
      simp [Nat.testBit_zero, hnk]
    · obtain ⟨j, hj⟩ : ∃ j, i - k = j + 1 := ⟨i - k - 1, by omega⟩
      rw [hj, Nat.testBit_succ, Nat.testBit_succ]
      have e1 : (2 * m + 1) / 2 = m := by omega
      have e2 : 2 * m / 2 = m := by omega
      rw [e1, e2]
      have hne : ¬ k = i := fun h => he h.symm
      cases m.testBit j <;> simp [hne]
  · have hne : ¬ k = i := by omega
    simp [hi, hne]
def lowI (x : Int) : Int := Go.bits .and .u32 x (-x % 4294967296)
set_option maxRecDepth 100000 in
set_option maxHeartbeats 2000000 in
theorem tz_calls (x : Int) (hx : 0 < x ∧ x < 4294967296) (ix : Nat) (hix : ix < 32) (he : (lowI x * 125613361 % 4294967296) / 134217728 = (ix : Int)) (w : World) (hd : Deb w) :
    Calls Tryd.prog 27 #[.int .u32 x] w fun e w' => e = .returned (.int .i64 (dbL.getD ix 0)) ∧ Drawn0 w w' := by
  have hc := hd ix hix
  have hne : (x == 0) = false := by simp; omega
  have p1 : ((0 : Int) ≤ (ix : Int)) = True := eq_true (by omega)
  have q1 : ((ix : Int) < (32 : Int)) = True := eq_true (by omega)
  have hfin : ∀ i : Fin 32, 0 ≤ dbL.getD i.val 0 ∧ dbL.getD i.val 0 < 32 := by decide
  have hb := hfin ⟨ix, hix⟩
  have hw : wrap64 (dbL.getD ix 0) = dbL.getD ix 0 := by unfold wrap64; simp only at hb; omega
  generalize dbL.getD ix 0 = v at hc hw ⊢
  clear hx hfin hb
  unfold lowI at he
  go_enter Tryd.func27, Tryd.ntmps27
  go_wp2
  go_ret
  exact ⟨by first | rfl | (rw [hw]; rfl) | (simp only [hw]; rfl), by repeat (first | exact Drawn0.refl _ | apply Drawn0.step)⟩
theorem bits_and32 (x y : Int) : Go.bits .and .u32 x y = IntKind.u32.wrap (((BitVec.ofInt 32 x &&& BitVec.ofInt 32 y).toNat : Nat) : Int) := rfl
theorem lowI_eq (n : Nat) (h0 : 0 < n) (h1 : n < 4294967296) : lowI (n : Int) = ((2 ^ tzN 32 n : Nat) : Int) ∧ tzN 32 n < 32 := by
  obtain ⟨m, hm, hk⟩ := tz_form 32 n h0 h1
  refine ⟨?_, hk⟩
  have en : -(n : Int) % 4294967296 = ((4294967296 - n : Nat) : Int) := by omega
  have hl := low_bit (tzN 32 n) m 32 (by omega) (by rw [← hm]; exact h1)
  rw [← hm] at hl
  unfold lowI
  rw [en, bits_and32, BitVec.toNat_and, BitVec.ofInt_natCast, BitVec.ofInt_natCast, BitVec.toNat_ofNat, BitVec.toNat_ofNat, Nat.mod_eq_of_lt (show n < 2 ^ 32 from h1), Nat.mod_eq_of_lt (show 4294967296 - n < 2 ^ 32 by omega)]
  have hl2 : n &&& (4294967296 - n) = 2 ^ tzN 32 n := hl
  rw [hl2, IntKind.wrap_u32]
  have := Nat.pow_le_pow_right (show 0 < 2 by omega) (show tzN 32 n ≤ 31 by omega)
  omega
theorem db_fin : ∀ k : Fin 32, (((2 ^ k.val : Nat) : Int) * 125613361 % 4294967296) / 134217728 < 32 ∧ 0 ≤ (((2 ^ k.val : Nat) : Int) * 125613361 % 4294967296) / 134217728 ∧ dbL.getD ((((2 ^ k.val : Nat) : Int) * 125613361 % 4294967296) / 134217728).toNat 0 = (k.val : Int) := by decide +kernel
/-- TrailingZeros32, in plain words. -/
theorem tz_nat (n : Nat) (h0 : 0 < n) (h1 : n < 4294967296) (w : World) (hd : Deb w) : Calls Tryd.prog 27 #[.int .u32 (n : Int)] w fun e w' => e = .returned (.int .i64 (tzN 32 n : Int)) ∧ Drawn0 w w' := by
  obtain ⟨h2, h3⟩ := lowI_eq n h0 h1
  obtain ⟨P, hP⟩ : ∃ P, P = (((2 ^ tzN 32 n : Nat) : Int) * 125613361 % 4294967296) / 134217728 := ⟨_, rfl⟩
  have g := db_fin ⟨tzN 32 n, h3⟩
  rw [show (((2 ^ (⟨tzN 32 n, h3⟩ : Fin 32).val : Nat) : Int) * 125613361 % 4294967296) / 134217728 = P from hP.symm] at g
  obtain ⟨g1, g2, g3⟩ := g
  have he : (lowI (n : Int) * 125613361 % 4294967296) / 134217728 = (P.toNat : Int) := by
    rw [h2, ← hP, Int.toNat_of_nonneg g2]
  have h := tz_calls (n : Int) ⟨by omega, by omega⟩ P.toNat (by omega) he w hd
  rw [g3] at h
  exact h
end Go.Proofs.YthjmlmognbenoaaDoor.PAll
end

/- The floors of bits, rising, in plain words (no statement stands here). -/
section
namespace Go.Proofs.YthjmlmognbenoaaDoor.PAll
open Go.RowKit Go.Proofs.YthjmlmognbenoaaDoorW.PrintWords Go.Proofs.YthjmlmognbenoaaDoorW.PrintLast Go.Proofs.YthjmlmognbenoaaDoorW.PrintMore
set_option linter.unusedVariables false
set_option linter.unusedSimpArgs false
/-- The places of the bits that are 1. -/
def floL (n : Nat) : List Nat := (List.range 32).filter fun i => n.testBit i
theorem filter_first (p : Nat → Bool) (t : Nat) : ∀ (len s : Nat), s ≤ t → t < s + len → p t = true → (∀ i, s ≤ i → i < t → p i = false) →
    (List.range' s len).filter p = t :: (List.range' s len).filter (fun i => p i && decide (i ≠ t)) := by
  intro len
  induction len with
  | zero => intro s h1 h2; omega
  | succ len ih =>
    intro s h1 h2 h3 h4
    rw [List.range'_succ]
    by_cases hs : s = t
    · subst hs
      rw [List.filter_cons_of_pos h3, List.filter_cons_of_neg (by simp)]
      congr 1
      apply List.filter_congr
      intro i hi
      rw [List.mem_range'_1] at hi
      have : i ≠ s := by omega
      simp [this]
    · rw [List.filter_cons_of_neg (by rw [h4 s (Nat.le_refl _) (by omega)]; simp), List.filter_cons_of_neg (by rw [h4 s (Nat.le_refl _) (by omega)]; simp)]
      exact ih (s + 1) (by omega) (by omega) h3 (fun i hi1 hi2 => h4 i (by omega) hi2)
theorem low_off (k m : Nat) : (2 ^ k * (2 * m + 1)) &&& (2 ^ k * (2 * m + 1) - 1) = 2 ^ k * (2 * m) := by
  have hp : 0 < 2 ^ k := Nat.pow_pos (by decide)
  have e : 2 ^ k * (2 * m + 1) - 1 = 2 ^ k * (2 * m) + (2 ^ k - 1) := by rw [Nat.mul_add, Nat.mul_one]; omega
  apply Nat.eq_of_testBit_eq
  intro i
  rw [e, Nat.testBit_and, Nat.testBit_two_pow_mul, Nat.testBit_two_pow_mul, Nat.testBit_two_pow_mul_add _ (by omega)]
  by_cases hi : i < k
  · have : ¬ k ≤ i := by omega
    simp [this]
  · have h1 : k ≤ i := by omega
    rw [if_neg hi]
    simp only [h1, decide_true, Bool.true_and]
    cases hj : i - k with
    | zero => simp [Nat.testBit_zero]
    | succ j =>
      rw [Nat.testBit_succ, Nat.testBit_succ]
      have e1 : (2 * m + 1) / 2 = m := by omega
      have e2 : 2 * m / 2 = m := by omega
      rw [e1, e2, Bool.and_self]
theorem low_bits (k m i : Nat) : (2 ^ k * (2 * m)).testBit i = ((2 ^ k * (2 * m + 1)).testBit i && decide (i ≠ k)) := by
  rw [Nat.testBit_two_pow_mul, Nat.testBit_two_pow_mul]
  by_cases hi : k ≤ i
  · simp only [hi, decide_true, Bool.true_and]
    cases hj : i - k with
    | zero =>
      have : i = k := by omega
      simp [Nat.testBit_zero, this]
    | succ j =>
      rw [Nat.testBit_succ, Nat.testBit_succ]
      have e1 : (2 * m + 1) / 2 = m := by omega
      have e2 : 2 * m / 2 = m := by omega
      have : i ≠ k := by omega
      simp [e1, e2, this]
  · simp [hi]
theorem floL_zero : floL 0 = [] := by unfold floL; simp
theorem floL_step (n : Nat) (h0 : 0 < n) (h1 : n < 4294967296) : floL n = tzN 32 n :: floL (n &&& (n - 1)) := by
  obtain ⟨m, hm, hk⟩ := tz_form 32 n h0 h1
  generalize tzN 32 n = k at hm hk
  have hlo : ∀ i, i < k → n.testBit i = false := by
    intro i hi
    rw [hm, Nat.testBit_two_pow_mul]
    have : ¬ k ≤ i := by omega
    simp [this]
  have hkk : n.testBit k = true := by rw [hm, Nat.testBit_two_pow_mul]; simp [Nat.testBit_zero]
  have hn : n &&& (n - 1) = 2 ^ k * (2 * m) := by rw [hm]; exact low_off k m
  unfold floL
  rw [List.range_eq_range', filter_first _ k 32 0 (Nat.zero_le _) (by omega) hkk (fun i _ hi => hlo i hi), hn]
  congr 1
  apply List.filter_congr
  intro i _
  rw [low_bits k m i, ← hm]
theorem floL_lt (n t : Nat) (h : t ∈ floL n) : t < 32 := by
  unfold floL at h
  exact List.mem_range.1 (List.mem_filter.1 h).1
theorem floL_and (n : Nat) (h : n < 4294967296) : n &&& (n - 1) < 4294967296 := Nat.lt_of_le_of_lt Nat.and_le_left h
/-- x &= x - 1, as the walk says it. -/
theorem bits_off (n : Nat) (h0 : 0 < n) (h1 : n < 4294967296) : Go.bits .and .u32 (n : Int) (((n : Int) - 1) % 4294967296) = ((n &&& (n - 1) : Nat) : Int) := by
  have e : ((n : Int) - 1) % 4294967296 = ((n - 1 : Nat) : Int) := by omega
  rw [e, bits_and32, BitVec.toNat_and, BitVec.ofInt_natCast, BitVec.ofInt_natCast, BitVec.toNat_ofNat, BitVec.toNat_ofNat, Nat.mod_eq_of_lt (show n < 2 ^ 32 from h1), Nat.mod_eq_of_lt (show n - 1 < 2 ^ 32 by omega), IntKind.wrap_u32]
  have := floL_and n h1
  omega
end Go.Proofs.YthjmlmognbenoaaDoor.PAll
end

/- The walks of floors and of its iterator, by hand (no statement stands here). -/
section
namespace Go.Proofs.YthjmlmognbenoaaDoor.PAll
open Go.RowKit Go.Shelf Go.Proofs.YthjmlmognbenoaaDoorW.PrintWords Go.Proofs.YthjmlmognbenoaaDoorW.PrintLast Go.Proofs.YthjmlmognbenoaaDoorW.PrintMore
set_option linter.unusedVariables false
set_option linter.unusedSimpArgs false
attribute [local go_sem] Oper.semAt_some
/-- What a round keeps: what lay below n₀, and the captured box. -/
def FlK (n₀ B : Nat) (W W' : World) : Prop := Below n₀ W W' ∧ W'.heap[B]? = W.heap[B]?
theorem FlK.t {n₀ B : Nat} {X Y Z : World} (h : FlK n₀ B X Y) (k : FlK n₀ B Y Z) : FlK n₀ B X Z := ⟨h.1.trans k.1, k.2.trans h.2⟩
theorem FlK.b {n₀ B : Nat} {w : World} (hn : n₀ ≤ w.heap.size) (hs : B < w.heap.size) (W : World) (l : Nat) (o o' : Obj) (hl : w.heap.size ≤ l) (h : W.heap[l]? = some o) (hc : o.isCells = false) (hw : o.isWalk = false) : FlK n₀ B W (W.putObj l o') :=
  ⟨belowK_b hn W l o o' hl h hc hw, World.putObj_heap_other (by omega)⟩
theorem Deb.below {n₀ : Nat} {W W' : World} (h : Deb W) (h0 : 0 < n₀) (hb : Below n₀ W W') : Deb W' := fun i hi => (hb.cell (p := ⟨0, i, none⟩) h0).trans (h i hi)
def cellN (W : World) (B : Nat) : Nat := match W.cell? ⟨B, 0, none⟩ with | some (.int _ i) => i.toNat | _ => 0
theorem cellN_of {W : World} {B : Nat} {t : TypeId} {m : Nat} (h : Boxed W B t (.int .u32 (m : Int))) : cellN W B = m := by unfold cellN; rw [h.cell]; simp
theorem off_lt (m : Nat) (h : 0 < m) : m &&& (m - 1) < m := Nat.lt_of_le_of_lt Nat.and_le_right (by omega)
set_option maxRecDepth 100000 in
set_option maxHeartbeats 2000000 in
theorem floors1_in (n : Nat) (hn : 1 ≤ n) (l B n₀ x0 : Nat) (hx : x0 < 4294967296) (hn0 : 0 < n₀) (hnB : n₀ ≤ B) (J Jx : List (Fin 32) → World → Prop)
    (hJd : ∀ pre W q, J pre W → J pre (World.drewN W q)) (hJB : ∀ pre X v, J pre X → J pre (X.setCell ⟨B, 0, none⟩ v))
    (hY : ∀ pre (x : Fin 32) W, J pre W → YieldAt Fence.wide (n - 1) Tryd.prog l #[.int .i64 (x.val : Int)] W fun e W' =>
      (e = .returned (.bool true) ∧ J (pre ++ [x]) W' ∧ FlK n₀ B W W') ∨ (e = .returned (.bool false) ∧ Jx (pre ++ [x]) W'))
    (W : World) (hD : Deb W) (hBx : Boxed W B 23 (.int .u32 (x0 : Int))) (h0 : J [] W) :
    CallsIn Fence.wide n Tryd.prog 26 #[.func (.yield l) #[] #[], .pointer (some ⟨B, 0, none⟩)] W fun e W' => (∃ v, e = .returned v) ∧
      ((∃ xs : List (Fin 32), xs.map (·.val) = floL x0 ∧ J xs W') ∨ (∃ (pre : List (Fin 32)) (rest : List Nat), pre ≠ [] ∧ floL x0 = pre.map (·.val) ++ rest ∧ Jx pre W')) := by
  refine callsIn_of_wp Tryd.func26 rfl trivial ?_ rfl
  simp only [Tryd.ntmps26, List.size_toArray, List.length_cons, List.length_nil, Nat.reduceAdd, Nat.reduceSub, Array.replicate_succ, Array.replicate_zero, List.push_toArray, List.append_toArray, List.nil_append, List.cons_append]
  gi_wp2
  gi_loopw [] (fun wr => ∃ (pre : List (Fin 32)) (m : Nat), Aside0 (pre.map (·.val) ++ floL m = floL x0) ∧ Aside0 (m < 4294967296) ∧ Boxed wr B 23 (.int .u32 (m : Int)) ∧ Aside0 (Deb wr) ∧ Aside0 (J pre wr))
    (fun wr => cellN wr B)
  case atStart => exact ⟨[], x0, ⟨rfl⟩, ⟨hx⟩, hBx, ⟨hD⟩, ⟨h0⟩⟩
  case round =>
    obtain ⟨pre, m, HP, HM, hbx, HD, HJ⟩ := hrel
    have hcs := hbx.cell
    have hfz := hbx.frozen
    by_cases hm : m = 0
    · subst hm
      gi_wp2
      go_end0
      exact ⟨⟨_, rfl⟩, .inl ⟨pre, by have := HP.out; rw [floL_zero, List.append_nil] at this; exact this, HJ.out⟩⟩
    · have hm0 : 0 < m := by omega
      have hne : ((m : Int) == 0) = false := by simp; omega
      have hne2 : ((m : Int) != 0) = true := by simp; omega
      have HM0 := Aside0.mk hm0
      clear hm hm0
      have HT := Aside0.mk (lowI_eq m HM0.out HM.out).2
      have HS := Aside0.mk (floL_step m HM0.out HM.out)
      have HO := Aside0.mk (bits_off m HM0.out HM.out)
      have hbo := HO.out
      have HHY := Aside0.mk hY
      clear hY hD hBx h0 hx
      gi_wp2_with (first | (refine ⟨trivial, ?_⟩; gi_at_call 27; refine (callsIn_wide.2 (tz_nat m HM0.out HM.out wr HD.out)).mono ?_; rintro e w1 ⟨rfl, ⟨nd, rfl⟩⟩; obtain ⟨fn, tmps, assign, body, hy, hR⟩ := HHY.out pre ⟨tzN 32 m, HT.out⟩ (wr.drewN nd) (hJd _ _ _ HJ.out)))
      refine hR.mono ?_
      rintro e W3 (⟨rfl, hJ3, hk3⟩ | ⟨rfl, hJx3⟩)
      · have hb3 : Boxed W3 B 23 (.int .u32 (m : Int)) := hk3.2.trans hbx
        have hD3 : Deb W3 := (HD.out.below hn0 (pw_below_drewN (Below.refl n₀ wr) nd)).below hn0 hk3.1
        have HB3 := Aside0.mk hb3
        have HD3 := Aside0.mk hD3
        have HJ3 := Aside0.mk hJ3
        have hcs3 := hb3.cell
        have hfz3 := hb3.frozen
        clear hk3 hb3 hD3 hJ3
        gi_wp2
        go_roundw
        case rel =>
          refine ⟨pre ++ [⟨tzN 32 m, HT.out⟩], m &&& (m - 1), ⟨?_⟩, ⟨floL_and m HM.out⟩, HB3.out.set _, ⟨HD3.out.below hn0 ((Below.refl n₀ W3).setCell (p := ⟨B, 0, none⟩) hnB _)⟩, ⟨hJB _ _ _ HJ3.out⟩⟩
          rw [List.map_append, ← HP.out, HS.out, List.append_assoc]
          rfl
        case measure =>
          rw [cellN_of (HB3.out.set _), cellN_of hbx]
          exact off_lt m HM0.out
      · gi_wp2
        refine bodyPost_ret (results_none rfl _ _ _) rfl ?_
        refine ⟨⟨_, rfl⟩, .inr ⟨_, floL (m &&& (m - 1)), by simp, ?_, hJx3⟩⟩
        rw [List.map_append, ← HP.out, HS.out, List.append_assoc]
        rfl
theorem grown_drewN (W : World) (q : Nat) : W.grownBy (W.drewN q) none := ⟨rfl, rfl, rfl, Nat.le_refl _, fun _ _ _ => rfl⟩
/-- The iterator's word. -/
theorem floors1_turns (n : Nat) (hn : 1 ≤ n) (B n₀ x0 : Nat) (hx : x0 < 4294967296) (hn0 : 0 < n₀) (hnB : n₀ ≤ B) (w : World) (hD : Deb w) (hBx : Boxed w B 23 (.int .u32 (x0 : Int))) :
    SeqTurns Fence.wide n Tryd.prog 26 #[.pointer (some ⟨B, 0, none⟩)] (fun x : Fin 32 => #[Value.int .i64 (x.val : Int)]) (FlK n₀ B) B (fun xs => xs.map (·.val) = floL x0) (fun pre => pre ≠ [] ∧ ∃ rest, floL x0 = pre.map (·.val) ++ rest) w :=
  fun l J Jx W hW hJ _ hJB hY h0 => by
    have h0w : 0 < w.heap.size := Nat.lt_of_le_of_lt (Nat.zero_le _) hBx.lt
    refine (floors1_in n hn l B n₀ x0 hx hn0 hnB J Jx (fun pre W1 q hj => hJ pre W1 _ none hj (grown_drewN W1 q) (fun r e => by cases e)) hJB hY W (hD.below h0w hW) ((hW.block B hBx.lt).trans hBx) h0).mono ?_
    rintro e W' ⟨he, ⟨xs, h1, h2⟩ | ⟨pre, rest, h1, h2, h3⟩⟩
    · exact ⟨he, .inl ⟨xs, h1, h2⟩⟩
    · exact ⟨he, .inr ⟨pre, ⟨h1, rest, h2⟩, h3⟩⟩
set_option maxRecDepth 100000 in
theorem floors_calls (x : Int) (w : World) :
    Calls Tryd.prog 24 #[.int .u32 x] w fun e w' => e = .returned (.func (.func 26) #[] #[.pointer (some ⟨w.heap.size, 0, none⟩)]) ∧ w' = w.alloc (.cells #[.int .u32 x] 23) := by
  go_enter Tryd.func24, Tryd.ntmps24
  go_wp2
  go_ret
  exact ⟨rfl, rfl⟩
end Go.Proofs.YthjmlmognbenoaaDoor.PAll
end

/- The walk of (Calls).Next, by hand (no statement stands here). -/
section
namespace Go.Proofs.YthjmlmognbenoaaDoor.PAll
open Go.RowKit Go.Shelf Go.Proofs.YthjmlmognbenoaaDoorW.PrintWords Go.Proofs.YthjmlmognbenoaaDoorW.PrintLast Go.Proofs.YthjmlmognbenoaaDoorW.PrintMore
set_option linter.unusedVariables false
set_option linter.unusedSimpArgs false
theorem results_cell_int {fn : Func} {p : Tmp} (h : fn.results = #[.cell p 3]) (tmps : Array Value) (w : World) (g : Nat) (v : Value)
    (hp : tmps.getD p undef = .pointer (some ⟨g, 0, none⟩)) (hg : Boxed w g 3 v) : (results fn tmps).run Tryd.prog w = .ok v w := by
  have hp' : tmps[p]?.getD undef = .pointer (some ⟨g, 0, none⟩) := by simpa using hp
  have hc := hg.cell
  have hu := Tryd.underlying3
  simp [results, h, hp', asAddr, loadVar, isAgg, go_sem, hu, hc, Sem.run_bind, Result.andThen]
/-- Three variables, made one behind the other. -/
theorem three_boxes (w : World) (h pos : Int) (A0 : Option Addr) (n c0 : Nat) : ∃ W, ((w.alloc (.cells #[.int .u32 h, .slice A0 n c0] 27)).alloc (.cells #[.int .i64 pos] 3)).alloc (.cells #[.int .i64 0] 3) = W ∧
    W.heap[w.heap.size]? = some (.cells #[.int .u32 h, .slice A0 n c0] 27 (0, 0)) ∧ Boxed W (w.heap.size + 1) 3 (.int .i64 pos) ∧ Boxed W (w.heap.size + 2) 3 (.int .i64 0) ∧ Below w.heap.size w W ∧ W.heap.size = w.heap.size + 3 := by
  refine ⟨_, rfl, blk_alloc (blk_alloc (blk_new w _) _) _, ?_, ?_, below_alloc (below_alloc (below_alloc (Below.refl _ _) _) _) _, by simp⟩
  · have := (Boxed.new (w.alloc (.cells #[.int .u32 h, .slice A0 n c0] 27)) 3 (.int .i64 pos)).alloc (.cells #[.int .i64 0] 3)
    rwa [World.size_alloc] at this
  · have := Boxed.new ((w.alloc (.cells #[.int .u32 h, .slice A0 n c0] 27)).alloc (.cells #[.int .i64 pos] 3)) 3 (.int .i64 0)
    rwa [World.size_alloc, World.size_alloc] at this
set_option maxRecDepth 100000 in
set_option maxHeartbeats 2000000 in
theorem Next_none (h car pos halls : Int) (A0 : Option Addr) (c0 : Nat) (l0 : List Int) (w : World) (hr0 : Kd.C (Kd.int .u32) w A0 l0.length l0) (hc : l0.length ≤ c0) (hhas : calls_Calls_has.f h l0 car = some false) :
    Calls Tryd.prog 16 #[.agg #[.int .u32 h, .slice A0 l0.length c0], .int .i64 car, .int .i64 pos, .int .u32 halls] w fun e w' => e = .returned (.int .i64 (-1)) ∧ Below w.heap.size w w' := by
  have hu27 := Tryd.underlying27
  have hu3 := Tryd.underlying3
  have HR0 := Aside0.mk hr0
  have HC := Aside0.mk hc
  have HHAS := Aside0.mk hhas
  clear hr0 hc hhas
  go_enter Tryd.func16, Tryd.ntmps16
  go_upto_region 1 with (fail)
  obtain ⟨W, hW, hBc, hBp, hBr, hbl, hz⟩ := three_boxes w h pos A0 l0.length c0
  rw [hW]
  clear hW
  have HRW := Aside0.mk (Kd.C_below HR0.out hbl)
  obtain ⟨G, hG⟩ : ∃ G, G = w.heap.size := ⟨_, rfl⟩
  have hG1 : w.heap.size + 1 = G + 1 := by rw [hG]
  have hG2 : w.heap.size + 2 = G + 2 := by rw [hG]
  have hG3 : w.heap.size + 1 + 1 = G + 2 := by rw [hG]
  simp only [hG1, hG2, hG3, ← hG] at hBc hBp hBr hbl ⊢
  have HSZ : Aside0 (G ≤ W.heap.size) := Aside0.mk (by omega)
  have HG := Aside0.mk hG
  have HBC := Aside0.mk hBc
  have HBR := Aside0.mk hBr
  have HBL := Aside0.mk hbl
  have k0 := (blk_cell hBc 0).trans (rfl : _ = some (Value.int .u32 h))
  have k1 := (blk_cell hBc 1).trans (rfl : _ = some (Value.slice A0 l0.length c0))
  clear hz hG hG1 hG2 hG3 hBc hBp hBr hbl
  go_wp2_with (first
    | (go_at_call 23; refine (calls_Calls_has.calls h A0 c0 l0 car false _ HRW.out HC.out HHAS.out).mono ?_; rintro e w4 ⟨rfl, hb4⟩; have HBL4 := Aside0.mk (HBL.out.trans (hb4.mono HSZ.out)); have HR4 : Aside0 (Boxed w4 (G + 2) 3 (.int .i64 0)) := Aside0.mk ((hb4.block _ HBR.out.lt).trans HBR.out); have r4 := HR4.out.cell; have f4 := HR4.out.frozen; clear hb4))
  have hG2 : w.heap.size ≤ G + 2 := by rw [HG.out]; omega
  have f1 : Boxed (w4.setCell ⟨G + 2, 0, none⟩ (.int .i64 (-1))) (G + 2) 3 (.int .i64 (-1)) := HR4.out.set _
  refine bodyPost_ret (results_cell_int rfl _ _ (G + 2) _ rfl f1) rfl ?_
  exact ⟨rfl, below_set (by rw [← HG.out]; exact HBL4.out) hG2⟩
end Go.Proofs.YthjmlmognbenoaaDoor.PAll
end

/- The walk of (Calls).Next where there is the car, by hand (no statement stands here). -/
section
namespace Go.Proofs.YthjmlmognbenoaaDoor.PAll
open Go.RowKit Go.Shelf Go.Proofs.YthjmlmognbenoaaDoorW.PrintWords Go.Proofs.YthjmlmognbenoaaDoorW.PrintLast Go.Proofs.YthjmlmognbenoaaDoorW.PrintMore
attribute [local go_sem] Oper.semAt_some max_two min_two
set_option linter.unusedVariables false
set_option linter.unusedSimpArgs false
/-- One floor more: the nearest one so far, and how far it is. -/
def stepB (pos : Int) (s : Int × Int) (f : Nat) : Int × Int := if s.1 = -1 ∨ max ((f : Int) * 8 - pos) (pos - (f : Int) * 8) < s.2 then ((f : Int), max ((f : Int) * 8 - pos) (pos - (f : Int) * 8)) else s
def bestOf (pos : Int) (l : List Nat) : Int × Int := l.foldl (stepB pos) (-1, 0)
def firstOf : List Nat → Int
  | [] => -1
  | f :: _ => (f : Int)
def orElse (b : Int × Int) (f : Int) : Int := if b.1 = -1 then f else b.1
/-- What Next answers. -/
def nextI (own hl : Nat) (pos : Int) : Int := orElse (bestOf pos (floL own)) (firstOf (floL hl))
theorem max_as (x y : Int) : Builtin.max2 (.int .i64 x) (.int .i64 y) = pure (.int .i64 (max x y)) := by
  rw [max2_int]
  congr 2
  rw [Int.max_def]
  by_cases h : x < y
  · rw [if_pos h, if_pos (by omega)]
  · rw [if_neg h]
    by_cases h2 : x ≤ y
    · rw [if_pos h2]; omega
    · rw [if_neg h2]
/-- The floor f is the nearest one so far: both boxes are written. -/
theorem nextA {S G : Nat} {w W : World} {pos h f e : Int} {A1 : Option Addr} {n c0 : Nat} {s : Int × Int} (hs : s = (f, e)) (hGS : G + 3 ≤ S) (b d : Int) (i1 : Boxed W S 3 (.int .i64 b)) (i2 : Boxed W (S + 1) 3 (.int .i64 d)) (i3 : Below G w W) (i4 : Boxed W (G + 1) 3 (.int .i64 pos)) (i5 : Boxed W (G + 2) 3 (.int .i64 0)) (i6 : W.heap[G]? = some (.cells #[.int .u32 h, .slice A1 n c0] 27 (0, 0))) :
    KeepsFrom (S + 3) W ((W.setCell ⟨S, 0, none⟩ (.int .i64 f)).setCell ⟨S + 1, 0, none⟩ (.int .i64 e)) ∧ FlK G (S + 2) W ((W.setCell ⟨S, 0, none⟩ (.int .i64 f)).setCell ⟨S + 1, 0, none⟩ (.int .i64 e)) ∧
      (Boxed ((W.setCell ⟨S, 0, none⟩ (.int .i64 f)).setCell ⟨S + 1, 0, none⟩ (.int .i64 e)) S 3 (.int .i64 s.1) ∧ (Boxed ((W.setCell ⟨S, 0, none⟩ (.int .i64 f)).setCell ⟨S + 1, 0, none⟩ (.int .i64 e)) (S + 1) 3 (.int .i64 s.2) ∧ (Below G w ((W.setCell ⟨S, 0, none⟩ (.int .i64 f)).setCell ⟨S + 1, 0, none⟩ (.int .i64 e)) ∧ (Boxed ((W.setCell ⟨S, 0, none⟩ (.int .i64 f)).setCell ⟨S + 1, 0, none⟩ (.int .i64 e)) (G + 1) 3 (.int .i64 pos) ∧ (Boxed ((W.setCell ⟨S, 0, none⟩ (.int .i64 f)).setCell ⟨S + 1, 0, none⟩ (.int .i64 e)) (G + 2) 3 (.int .i64 0) ∧ ((W.setCell ⟨S, 0, none⟩ (.int .i64 f)).setCell ⟨S + 1, 0, none⟩ (.int .i64 e)).heap[G]? = some (.cells #[.int .u32 h, .slice A1 n c0] 27 (0, 0))))))) := by
  subst hs
  have key : ∀ (j : Nat), j ≠ S → j ≠ S + 1 → ((W.setCell ⟨S, 0, none⟩ (.int .i64 f)).setCell ⟨S + 1, 0, none⟩ (.int .i64 e)).heap[j]? = W.heap[j]? := fun j h1 h2 => (Below.heap_setCell _ _ _ _ (by show j ≠ S + 1; exact h2)).trans (Below.heap_setCell _ _ _ _ (by show j ≠ S; exact h1))
  refine ⟨((KeepsOthers.setCell W _ _).trans (KeepsOthers.setCell _ _ _)).from _, ⟨((Below.refl G W).setCell (p := ⟨S, 0, none⟩) (by show G ≤ S; omega) _).setCell (p := ⟨S + 1, 0, none⟩) (by show G ≤ S + 1; omega) _, key _ (by omega) (by omega)⟩, (i1.set _).other (by omega) _, (i2.other (by omega) _).set _, (i3.setCell (p := ⟨S, 0, none⟩) (by show G ≤ S; omega) _).setCell (p := ⟨S + 1, 0, none⟩) (by show G ≤ S + 1; omega) _, (key _ (by omega) (by omega)).trans i4, (key _ (by omega) (by omega)).trans i5, (key _ (by omega) (by omega)).trans i6⟩
theorem blkOwn {β : Type} (B : Nat) (cs : Array Value) (t : TypeId) : Own (fun (_ : β) (W : World) => W.heap[B]? = some (.cells cs t (0, 0))) :=
  fun _ W W' row hs hg hr => (hg.block B (Array.getElem?_eq_some_iff.1 hs).1 (fun e => by obtain ⟨o, ho, hc⟩ := hr B e.symm; rw [hs] at ho; cases ho; cases hc)).trans hs
theorem defOwn {β : Type} (B D : Nat) (hD : D < B) : OwnFrom B (fun (_ : β) (W : World) => W.heap[D]? = some (.deferred (some []))) :=
  fun _ W W' row hs hg hr => (hg.block D (Array.getElem?_eq_some_iff.1 hs).1 (fun e => by have := (hr D e.symm).1; omega)).trans hs
theorem nilOwn {β : Type} (B : Nat) (p : β → Prop) : OwnFrom B (fun (s : β) (_ : World) => p s) := fun _ _ _ _ hs _ _ => hs
theorem firstOf_nil : firstOf [] = -1 := rfl
theorem firstOf_cons (f : Nat) (r : List Nat) : firstOf (f :: r) = (f : Int) := rfl
theorem nextI_some {x y : Nat} {pos b d : Int} (h : bestOf pos (floL x) = (b, d)) (hb : b ≠ -1) : nextI x y pos = b := by unfold nextI orElse; rw [h, if_neg hb]
theorem nextI_none {x y : Nat} {pos d f : Int} (h : bestOf pos (floL x) = (-1, d)) (hf : firstOf (floL y) = f) : nextI x y pos = f := by unfold nextI orElse; rw [h, if_pos rfl, hf]
/-- The function's return, one mark deep. -/
theorem next_leave1 {n G D : Nat} {w W : World} {R : Ending → World → Prop} {tmps : Array Value} (v : Int) (ht : tmps.getD 8 undef = .pointer (some ⟨G + 2, 0, none⟩)) (hG : G = w.heap.size) (hGD : G ≤ D) (h5 : Boxed W (G + 2) 3 (.int .i64 v)) (h3 : Below G w W) (hK : W.heap[D]? = some (.deferred (some []))) (hR : ∀ W', Below w.heap.size w W' → R (.returned (.int .i64 v)) W') :
    bodyPostM Fence.wide n Tryd.prog Tryd.f16 R .ret { tmps := tmps, defers := [{ target := .collected D, args := #[] }] } W := by
  refine ⟨by simp, .inl ⟨_, _, rfl, run_takeDeferred hK, ?_⟩⟩
  have hne : D ≠ G + 2 := fun e => by rw [e] at hK; rw [show W.heap[G + 2]? = _ from h5] at hK; cases hK
  have h6 : Boxed (W.putObj D (.deferred none)) (G + 2) 3 (.int .i64 v) := (World.putObj_heap_other (fun e => hne e.symm)).trans h5
  refine ⟨_, results_cell_int rfl _ _ (G + 2) _ ht h6, ?_⟩
  subst hG
  exact hR _ (h3.trans (belowK_b (w := w) (Nat.le_refl _) W D _ _ hGD hK rfl rfl))
/-- The function's return, two marks deep. -/
theorem next_leave2 {n G D D2 : Nat} {w W : World} {R : Ending → World → Prop} {tmps : Array Value} {e : Exit} (he : e = .ret) (v : Int) (ht : tmps.getD 8 undef = .pointer (some ⟨G + 2, 0, none⟩)) (hG : G = w.heap.size) (hGD : G ≤ D) (hGD2 : G ≤ D2) (hne2 : D2 ≠ D) (h5 : Boxed W (G + 2) 3 (.int .i64 v)) (h3 : Below G w W) (hK : W.heap[D]? = some (.deferred (some []))) (hK2 : W.heap[D2]? = some (.deferred (some []))) (hR : ∀ W', Below w.heap.size w W' → R (.returned (.int .i64 v)) W') :
    bodyPostM Fence.wide n Tryd.prog Tryd.f16 R e { tmps := tmps, defers := [{ target := .collected D2, args := #[] }, { target := .collected D, args := #[] }] } W := by
  subst he
  refine ⟨by simp, .inl ⟨_, _, rfl, run_takeDeferred hK2, ?_⟩⟩
  have hne : D2 ≠ G + 2 := fun e => by rw [e] at hK2; rw [show W.heap[G + 2]? = _ from h5] at hK2; cases hK2
  have h6 : Boxed (W.putObj D2 (.deferred none)) (G + 2) 3 (.int .i64 v) := (World.putObj_heap_other (fun e => hne e.symm)).trans h5
  have hK3 : (W.putObj D2 (.deferred none)).heap[D]? = some (.deferred (some [])) := (World.putObj_heap_other (fun e => hne2 e.symm)).trans hK
  have h7 : Below G w (W.putObj D2 (.deferred none)) := by subst hG; exact h3.trans (belowK_b (w := w) (Nat.le_refl _) W D2 _ _ hGD2 hK2 rfl rfl)
  exact next_leave1 (n := n) v ht hG hGD h6 h7 hK3 hR
set_option maxRecDepth 100000 in
set_option maxHeartbeats 4000000 in
theorem Next_in (n : Nat) (hn : 5 ≤ n) (h halls pos : Int) (k : Nat) (x y : Nat) (A0 : Option Addr) (c0 : Nat) (l0 : List Int) (w : World) (hD : Deb w) (hr0 : Kd.C (Kd.int .u32) w A0 l0.length l0) (hc : l0.length ≤ c0) (hl : l0.length ≤ 1000000) (hk : k < l0.length) (hx : rd l0 (k : Int) = (x : Int)) (hx2 : x < 4294967296)
    (hy : Go.bits .and .u32 h halls = (y : Int)) (hy2 : y < 4294967296) (hp : 0 ≤ pos ∧ pos ≤ 1000000) :
    CallsIn Fence.wide n Tryd.prog 16 #[.agg #[.int .u32 h, .slice A0 l0.length c0], .int .i64 (k : Int), .int .i64 pos, .int .u32 halls] w fun e w' => e = .returned (.int .i64 (nextI x y pos)) ∧ Below w.heap.size w w' := by
  have hu27 := Tryd.underlying27
  have hu3 := Tryd.underlying3
  have hhas : calls_Calls_has.f h l0 (k : Int) = some true := by unfold calls_Calls_has.f; rw [if_pos (by omega), decide_eq_true (by omega)]
  have HR0 := Aside0.mk hr0
  have HC := Aside0.mk hc
  have HHAS := Aside0.mk hhas
  have HP := Aside0.mk hp
  have HD := Aside0.mk hD
  have hw0 : 0 < w.heap.size := by
    have := World.block_lt_of_cell? w _ (hD 0 (by omega))
    simpa using this
  obtain ⟨ad1, e1, hx1⟩ := Kd.at_int hr0 (k : Int) (by omega) (by omega)
  cases e1
  rw [Int.toNat_natCast, hx] at hx1
  have HX1 := Aside0.mk hx1
  have p1 : ((0 : Int) ≤ (k : Int)) = True := eq_true (by omega)
  have q1 : ((k : Int) < (l0.length : Int)) = True := eq_true (by omega)
  clear hr0 hc hhas hp hD hx1 hx
  refine callsIn_of_wp_marks Tryd.func16 rfl trivial ?_ rfl
  simp only [Tryd.ntmps16, List.size_toArray, List.length_cons, List.length_nil, Nat.reduceAdd, Nat.reduceSub, Array.replicate_succ, Array.replicate_zero, List.push_toArray, List.append_toArray, List.nil_append, List.cons_append]
  gi_upto_region 1 with (fail)
  obtain ⟨W, hW, hBc, hBp, hBr, hbl, hz⟩ := three_boxes w h pos (some ad1) l0.length c0
  rw [hW]
  clear hW
  have HRW := Aside0.mk (Kd.C_below HR0.out hbl)
  obtain ⟨G, hG⟩ : ∃ G, G = w.heap.size := ⟨_, rfl⟩
  have hG1 : w.heap.size + 1 = G + 1 := by rw [hG]
  have hG2 : w.heap.size + 2 = G + 2 := by rw [hG]
  have hG3 : w.heap.size + 1 + 1 = G + 2 := by rw [hG]
  simp only [hG1, hG2, hG3, ← hG] at hBc hBp hBr hbl hw0 ⊢
  have HSZ : Aside0 (G ≤ W.heap.size) := Aside0.mk (by omega)
  have HG := Aside0.mk hG
  have HBC := Aside0.mk hBc
  have HBR := Aside0.mk hBr
  have HBP := Aside0.mk hBp
  have HBL := Aside0.mk hbl
  have k0 := (blk_cell hBc 0).trans (rfl : _ = some (Value.int .u32 h))
  have k1 := (blk_cell hBc 1).trans (rfl : _ = some (Value.slice (some ad1) l0.length c0))
  clear hz hG hG1 hG2 hG3 hBc hBp hBr hbl
  gi_upto_region 4 with (first
    | (refine ⟨trivial, (fun h_ => by cases h_), ?_⟩; gi_at_call 23; refine (callsIn_wide.2 (calls_Calls_has.calls h (some ad1) c0 l0 (k : Int) true _ HRW.out HC.out HHAS.out)).mono ?_; rintro e w4 ⟨rfl, hb4⟩; have HBL4 := Aside0.mk (HBL.out.trans (hb4.mono HSZ.out)); have HR4 : Aside0 (Boxed w4 (G + 2) 3 (.int .i64 0)) := Aside0.mk ((hb4.block _ HBR.out.lt).trans HBR.out); have HP4 : Aside0 (Boxed w4 (G + 1) 3 (.int .i64 pos)) := Aside0.mk ((hb4.block _ HBP.out.lt).trans HBP.out); have HC4 := Aside0.mk (blk_below HBC.out hb4); clear hb4 k0 k1))
  have hsz4 : G + 3 ≤ w4.heap.size := by have := HR4.out.lt; omega
  have b1 := (Boxed.new w4 3 (.int .i64 (-1))).alloc (.cells #[.int .i64 0] 3)
  have b2 := Boxed.new (w4.alloc (.cells #[.int .i64 (-1)] 3)) 3 (.int .i64 0)
  rw [World.size_alloc] at b2
  have b3 := (HP4.out.alloc (.cells #[.int .i64 (-1)] 3)).alloc (.cells #[.int .i64 0] 3)
  have b4 := (HR4.out.alloc (.cells #[.int .i64 (-1)] 3)).alloc (.cells #[.int .i64 0] 3)
  have b5 := blk_alloc (blk_alloc HC4.out (.cells #[.int .i64 (-1)] 3)) (.cells #[.int .i64 0] 3)
  have b6 : Below G w ((w4.alloc (.cells #[.int .i64 (-1)] 3)).alloc (.cells #[.int .i64 0] 3)) := (HBL4.out.alloc (by omega) _).alloc (by rw [World.size_alloc]; omega) _
  have hz5 : ((w4.alloc (.cells #[.int .i64 (-1)] 3)).alloc (.cells #[.int .i64 0] 3)).heap.size = w4.heap.size + 2 := by simp
  generalize (w4.alloc (.cells #[.int .i64 (-1)] 3)).alloc (.cells #[.int .i64 0] 3) = W5 at b1 b2 b3 b4 b5 b6 hz5 ⊢
  generalize w4.heap.size = S at b1 b2 hsz4 hz5 ⊢
  have k1 := (blk_cell b5 1).trans (rfl : _ = some (Value.slice (some ad1) l0.length c0))
  have hx5 : W5.cell? (ad1.add k) = some (.int .u32 (x : Int)) := (b6.cell (by rw [HG.out]; exact World.block_lt_of_cell? w _ HX1.out)).trans HX1.out
  have B1 := Aside0.mk b1
  have B2 := Aside0.mk b2
  have B3 := Aside0.mk b3
  have B4 := Aside0.mk b4
  have B5 := Aside0.mk b5
  have B6 := Aside0.mk b6
  have HZ5 := Aside0.mk hz5
  clear b1 b2 b3 b4 b5 b6 hz5
  gi_wp2_with (first
    | (refine ⟨trivial, (fun h_ => by cases h_), ?_⟩; gi_at_call 24; refine (callsIn_wide.2 (floors_calls (x : Int) W5)).mono ?_; rintro e w6 ⟨rfl, rfl⟩))
  have hz6 : (W5.alloc (.cells #[.int .u32 (x : Int)] 23)).heap.size = S + 3 := by rw [World.size_alloc, HZ5.out]
  have b7 := Boxed.new W5 23 (.int .u32 (x : Int))
  have b1 := B1.out.alloc (.cells #[.int .u32 (x : Int)] 23)
  have b2 := B2.out.alloc (.cells #[.int .u32 (x : Int)] 23)
  have b3 := B3.out.alloc (.cells #[.int .u32 (x : Int)] 23)
  have b4 := B4.out.alloc (.cells #[.int .u32 (x : Int)] 23)
  have b5 := blk_alloc B5.out (.cells #[.int .u32 (x : Int)] 23)
  have b6 : Below G w (W5.alloc (.cells #[.int .u32 (x : Int)] 23)) := B6.out.alloc (by rw [HZ5.out]; omega) _
  have hz5 := HZ5.out
  simp only [hz5] at b7 ⊢
  generalize W5.alloc (.cells #[.int .u32 (x : Int)] 23) = W6 at b1 b2 b3 b4 b5 b6 b7 hz6 ⊢
  have hD6 : Deb W6 := HD.out.below (n₀ := G) hw0 b6
  refine wpIn_rangeFunc_turns (F := Fence.wide) rfl (by omega) (gf := 26) (lb := #[.pointer (some ⟨S + 2, 0, none⟩)]) rfl trivial (enters_of Tryd.func26 (by kernel_rfl) rfl)
    (floors1_turns (n - 1) (by omega) (S + 2) G x hx2 hw0 (by omega) W6 hD6 b7) (by omega) FlK.t (FlK.b (by omega) (by omega)) (Below.refl _ _) (fun _ => rfl)
    (fun (pre : List (Fin 32)) W => Boxed W S 3 (.int .i64 (bestOf pos (pre.map (·.val))).1) ∧ (Boxed W (S + 1) 3 (.int .i64 (bestOf pos (pre.map (·.val))).2) ∧ (Below G w W ∧ (Boxed W (G + 1) 3 (.int .i64 pos) ∧ (Boxed W (G + 2) 3 (.int .i64 0) ∧ W.heap[G]? = some (.cells #[.int .u32 h, .slice (some ad1) l0.length c0] 27 (0, 0)))))))
    (fun _ _ _ => False)
    (OwnFrom.and (Own.from (boxed_own S 3 (fun pre : List (Fin 32) => Value.int .i64 (bestOf pos (pre.map (·.val))).1)) _) (OwnFrom.and (Own.from (boxed_own (S + 1) 3 (fun pre : List (Fin 32) => Value.int .i64 (bestOf pos (pre.map (·.val))).2)) _) (OwnFrom.and (ownFrom_below (by have := HG.out; omega) (by omega)) (OwnFrom.and (Own.from (boxed_own _ _ (fun _ => _)) _) (OwnFrom.and (Own.from (boxed_own _ _ (fun _ => _)) _) (Own.from (blkOwn _ _ _) _))))))
    (fun _ _ _ _ _ hs _ _ => hs)
    (fun pre X v hi => ⟨hi.1.other (by omega) v, hi.2.1.other (by omega) v, hi.2.2.1.setCell (p := ⟨S + 2, 0, none⟩) (by show G ≤ S + 2; omega) v, hi.2.2.2.1.other (by omega) v, hi.2.2.2.2.1.other (by omega) v, (Below.heap_setCell _ _ _ _ (by show G ≠ S + 2; omega)).trans hi.2.2.2.2.2⟩)
    ⟨b1, b2, b6, b3, b4, b5⟩
    (fun f : Fin 32 => { tmps := #[Value.agg #[Value.int .u32 h, Value.slice (some ad1) l0.length c0], Value.int .i64 (k : Int), Value.int .i64 pos, Value.int .u32 halls, Value.pointer (some ⟨G, 0, none⟩), undef, Value.pointer (some ⟨G + 1, 0, none⟩), undef, Value.pointer (some ⟨G + 1 + 1, 0, none⟩), Value.pointer (some ⟨S, 0, none⟩), Value.pointer (some ⟨S + 1, 0, none⟩), Value.int .i64 (f.val : Int), undef, undef, Value.agg #[Value.int .u32 h, Value.slice (some ad1) l0.length c0], Value.int .i64 (k : Int), Value.bool true, Value.bool false, Value.pointer (some ⟨G, 1, none⟩), Value.slice (some ad1) l0.length c0, Value.int .i64 (k : Int), Value.pointer (some (ad1.add k)), Value.int .u32 (x : Int), Value.func (Fn.func 26) #[] #[Value.pointer (some ⟨S + 2, 0, none⟩)], Value.int .i64 (f.val : Int), undef, undef, undef, undef, undef, undef, undef, undef, undef, undef, undef, undef, undef, undef, undef, undef, undef, undef, undef, undef, undef, undef, undef, undef, undef, undef, undef, undef], defers := [] }) ?assign ?body ?done ?stop
  case assign =>
    intro l f W K hK
    gi_wp2
    exact hK
  case body =>
    rintro l pre f W ⟨i1, i2, i3, i4, i5, i6⟩
    have hbest : bestOf pos ((pre ++ [f]).map (·.val)) = stepB pos (bestOf pos (pre.map (·.val))) f.val := by simp [bestOf, List.foldl_append]
    generalize bestOf pos (pre.map (·.val)) = s at i1 i2 hbest
    obtain ⟨b, d⟩ := s
    have HI1 := Aside0.mk i1
    have HI2 := Aside0.mk i2
    have HI3 := Aside0.mk i3
    have HI4 := Aside0.mk i4
    have HI5 := Aside0.mk i5
    have HI6 := Aside0.mk i6
    have c1 := i1.cell
    have g1 := i1.frozen
    have c2 := i2.cell
    have g2 := i2.frozen
    have c4 := i4.cell
    have HBE := Aside0.mk hbest
    have hf := f.isLt
    have hpp := HP.out
    have w1 : wrap64 ((f.val : Int) * 8) = (f.val : Int) * 8 := by unfold wrap64; omega
    have w2 : wrap64 ((f.val : Int) * 8 - pos) = (f.val : Int) * 8 - pos := by unfold wrap64; omega
    have w3 : wrap64 (pos - (f.val : Int) * 8) = pos - (f.val : Int) * 8 := by unfold wrap64; omega
    have w4 := (i64_w ((f.val : Int) * 8)).trans w1
    have w5 := (i64_w ((f.val : Int) * 8 - pos)).trans w2
    have w6 := (i64_w (pos - (f.val : Int) * 8)).trans w3
    have hm := max_as ((f.val : Int) * 8 - pos) (pos - (f.val : Int) * 8)
    have hst : stepB pos (b, d) f.val = if b = -1 ∨ max ((f.val : Int) * 8 - pos) (pos - (f.val : Int) * 8) < d then ((f.val : Int), max ((f.val : Int) * 8 - pos) (pos - (f.val : Int) * 8)) else (b, d) := rfl
    generalize max ((f.val : Int) * 8 - pos) (pos - (f.val : Int) * 8) = e at hm hst
    rw [← hbest] at hst
    clear i1 i2 i3 i4 i5 i6 hbest hpp hf
    by_cases hb1 : b = -1
    · subst hb1
      rw [if_pos (Or.inl rfl)] at hst
      have HST := Aside0.mk hst
      clear hst
      gi_wp2
      exact nextA HST.out hsz4 _ _ HI1.out HI2.out HI3.out HI4.out HI5.out HI6.out
    · have hbe : (b == -1) = false := by simpa using hb1
      by_cases hd : e < d
      · rw [if_pos (Or.inr hd)] at hst
        have HST := Aside0.mk hst
        have hde : decide (e < d) = true := decide_eq_true hd
        clear hst hd hb1
        gi_wp2
        exact nextA HST.out hsz4 _ _ HI1.out HI2.out HI3.out HI4.out HI5.out HI6.out
      · rw [if_neg (by omega)] at hst
        have HST := Aside0.mk hst
        have hde : decide (e < d) = false := decide_eq_false hd
        clear hst hd hb1
        gi_wp2
        refine ⟨(KeepsOthers.refl W).from _, ⟨Below.refl G W, rfl⟩, ?_⟩
        show Boxed W S 3 (.int .i64 (bestOf pos ((pre ++ [f]).map (·.val))).1) ∧ Boxed W (S + 1) 3 (.int .i64 (bestOf pos ((pre ++ [f]).map (·.val))).2) ∧ _
        rw [HST.out]
        exact ⟨HI1.out, HI2.out, HI3.out, HI4.out, HI5.out, HI6.out⟩
  case done =>
    rintro D ys W hD hS ⟨i1, i2, i3, i4, i5, i6⟩ hK
    rw [hS] at i1 i2
    generalize hbo : bestOf pos (floL x) = s at i1 i2
    obtain ⟨b, d⟩ := s
    have HBO := Aside0.mk hbo
    have HI3 := Aside0.mk i3
    have HI5 := Aside0.mk i5
    have HI6 := Aside0.mk i6
    have HK := Aside0.mk hK
    have c1 := i1.cell
    have g5 := i5.frozen
    have c5 := i5.cell
    have k0 := (blk_cell i6 0).trans (rfl : _ = some (Value.int .u32 h))
    clear i2 i3 i4 i5 i6 hbo hK hS
    by_cases hb1 : b = -1
    · subst hb1
      gi_wp2_with (first
        | (refine ⟨trivial, (fun h_ => by cases h_), ?_⟩; gi_at_call 24; refine (callsIn_wide.2 (floors_calls (y : Int) W)).mono ?_; rintro e w6 ⟨rfl, rfl⟩))
      have b7 := Boxed.new W 23 (.int .u32 (y : Int))
      have b5 := HI5.out.alloc (.cells #[.int .u32 (y : Int)] 23)
      have hZG : G + 3 ≤ W.heap.size := by have := HI5.out.lt; omega
      have hZD : D < W.heap.size := (Array.getElem?_eq_some_iff.1 HK.out).1
      have b6 : Below G w (W.alloc (.cells #[.int .u32 (y : Int)] 23)) := HI3.out.alloc (by omega) _
      have b8 : (W.alloc (.cells #[.int .u32 (y : Int)] 23)).heap[D]? = some (.deferred (some [])) := (Below.heap_alloc W _ D hZD).trans HK.out
      have hz7 : (W.alloc (.cells #[.int .u32 (y : Int)] 23)).heap.size = W.heap.size + 1 := World.size_alloc _ _
      generalize W.alloc (.cells #[.int .u32 (y : Int)] 23) = W7 at b5 b6 b7 b8 hz7 ⊢
      obtain ⟨Z, hZ⟩ : ∃ Z, Z = W.heap.size := ⟨_, rfl⟩
      simp only [← hZ] at b7 hz7 hZG hZD ⊢
      have hD7 : Deb W7 := HD.out.below (n₀ := G) hw0 b6
      have c2 : G ≤ D := by omega
      clear HI3 HI5 HI6 HK c1 c5 k0
      refine wpIn_rangeFunc_turns (F := Fence.wide) rfl (by omega) (gf := 26) (lb := #[.pointer (some ⟨Z, 0, none⟩)]) rfl trivial (enters_of Tryd.func26 (by kernel_rfl) rfl)
        (floors1_turns (n - 1) (by omega) Z G y hy2 hw0 (by omega) W7 hD7 b7) (by omega) FlK.t (FlK.b (by omega) (by omega)) (Below.refl _ _) (fun _ => rfl)
        (fun (pre : List (Fin 32)) W => pre = [] ∧ (Boxed W (G + 2) 3 (.int .i64 0) ∧ (Below G w W ∧ W.heap[D]? = some (.deferred (some [])))))
        (fun c (pre : List (Fin 32)) W => (c = .ret ∧ ∃ f : Fin 32, pre = [f]) ∧ (Boxed W (G + 2) 3 (.int .i64 (firstOf (pre.map (·.val)))) ∧ (Below G w W ∧ W.heap[D]? = some (.deferred (some [])))))
        (OwnFrom.and (nilOwn _ _) (OwnFrom.and (Own.from (boxed_own _ _ (fun _ => _)) _) (OwnFrom.and (ownFrom_below (by have := HG.out; omega) (by omega)) (defOwn _ D (by omega)))))
        (fun c => OwnFrom.and (nilOwn _ _) (OwnFrom.and (Own.from (boxed_own (G + 2) 3 (fun pre : List (Fin 32) => Value.int .i64 (firstOf (pre.map (·.val))))) _) (OwnFrom.and (ownFrom_below (by have := HG.out; omega) (by omega)) (defOwn _ D (by omega)))))
        (fun pre X v hi => ⟨hi.1, hi.2.1.other (by omega) v, hi.2.2.1.setCell (p := ⟨Z, 0, none⟩) (by show G ≤ Z; omega) v, (Below.heap_setCell _ _ _ _ (by show D ≠ Z; omega)).trans hi.2.2.2⟩)
        ⟨rfl, b5, b6, b8⟩
        (fun f : Fin 32 => { tmps := #[Value.agg #[Value.int .u32 h, Value.slice (some ad1) l0.length c0], Value.int .i64 (k : Int), Value.int .i64 pos, Value.int .u32 halls, Value.pointer (some ⟨G, 0, none⟩), undef, Value.pointer (some ⟨G + 1, 0, none⟩), undef, Value.pointer (some ⟨G + 1 + 1, 0, none⟩), Value.pointer (some ⟨S, 0, none⟩), Value.pointer (some ⟨S + 1, 0, none⟩), undef, undef, Value.int .i64 (f.val : Int), Value.agg #[Value.int .u32 h, Value.slice (some ad1) l0.length c0], Value.int .i64 (k : Int), Value.bool true, Value.bool false, Value.pointer (some ⟨G, 1, none⟩), Value.slice (some ad1) l0.length c0, Value.int .i64 (k : Int), Value.pointer (some (ad1.add k)), Value.int .u32 (x : Int), Value.func (Fn.func 26) #[] #[Value.pointer (some ⟨S + 2, 0, none⟩)], undef, undef, undef, undef, undef, undef, undef, undef, undef, undef, undef, undef, undef, undef, undef, undef, undef, undef, undef, Value.int .i64 (-1), Value.bool false, undef, Value.pointer (some ⟨G, 0, none⟩), Value.int .u32 h, Value.int .u32 halls, Value.int .u32 (y : Int), Value.func (Fn.func 26) #[] #[Value.pointer (some ⟨Z, 0, none⟩)], Value.int .i64 (f.val : Int), undef], defers := [] }) ?assign2 ?body2 ?done2 ?stop2
      case assign2 =>
        intro l f W K hK
        gi_wp2
        rw [hZ] at hK
        exact hK
      case body2 =>
        rintro l pre f W ⟨rfl, j5, j6, j8⟩
        have g5 := j5.frozen
        have c5 := j5.cell
        have J5 := Aside0.mk j5
        have J6 := Aside0.mk j6
        have J8 := Aside0.mk j8
        clear j5 j6 j8
        gi_wp2
        exact ⟨(KeepsOthers.setCell W _ _).from _, ⟨rfl, f, rfl⟩, J5.out.set _, J6.out.setCell (p := ⟨G + 2, 0, none⟩) (by show G ≤ G + 2; omega) _, (Below.heap_setCell _ _ _ _ (by show D ≠ G + 2; intro e; have h1 := J8.out; rw [e] at h1; rw [show W.heap[G + 2]? = _ from J5.out] at h1; cases h1)).trans J8.out⟩
      case done2 =>
        rintro D2 zs W hD2 hS2 ⟨rfl, j5, j6, j8⟩ hK2
        have g5 := j5.frozen
        have c5 := j5.cell
        have J5 := Aside0.mk j5
        have J6 := Aside0.mk j6
        have J8 := Aside0.mk j8
        have JK := Aside0.mk hK2
        have JS := Aside0.mk hS2
        clear j5 j6 j8 hK2 hS2
        gi_wp2
        refine next_leave2 rfl (-1) rfl HG.out c2 (by omega) (by omega) (J5.out.set _) (J6.out.setCell (p := ⟨G + 2, 0, none⟩) (by show G ≤ G + 2; omega) _) ?_ ?_ (fun W' hb => ⟨by rw [nextI_none HBO.out (f := -1) (by rw [← JS.out]; rfl)], hb⟩)
        · exact (KeepsOthers.setCell W _ _).same _ _ J8.out rfl
        · exact (KeepsOthers.setCell W _ _).same _ _ JK.out rfl
      case stop2 =>
        rintro D2 c zs W hD2 ⟨hne, rest, hS2⟩ ⟨⟨rfl, f, rfl⟩, j5, j6, j8⟩ hK2
        have J5 := Aside0.mk j5
        have J6 := Aside0.mk j6
        have J8 := Aside0.mk j8
        have JK := Aside0.mk hK2
        have JS := Aside0.mk hS2
        clear j5 j6 j8 hK2 hS2 hne
        gi_wp2
        refine next_leave2 rfl (f.val : Int) rfl HG.out c2 (by omega) (by omega) J5.out J6.out J8.out JK.out (fun W' hb => ⟨by rw [nextI_none HBO.out (f := (f.val : Int)) (by rw [JS.out]; rfl)], hb⟩)
    · have hbe : (b == -1) = false := by simpa using hb1
      have hbe2 : (b != -1) = true := by simpa using hb1
      have HB1 := Aside0.mk hb1
      clear hb1
      gi_wp2
      have c2 : G ≤ D := by omega
      refine next_leave1 b rfl HG.out c2 (HI5.out.set _) (HI3.out.setCell (p := ⟨G + 2, 0, none⟩) (by show G ≤ G + 2; omega) _) ?_ (fun W' hb => ⟨by rw [nextI_some HBO.out HB1.out], hb⟩)
      exact (KeepsOthers.setCell W _ _).same _ _ HK.out rfl
  case stop =>
    rintro D c pre W _ _ h _
    exact h.elim
end Go.Proofs.YthjmlmognbenoaaDoor.PAll
end

/- (Calls).Next, both walks in one contract, in the print's own form (no statement stands here). -/
section
namespace Go.Proofs.YthjmlmognbenoaaDoor.PAll
open Go.RowKit Go.Shelf Go.Proofs.YthjmlmognbenoaaDoorW.PrintWords Go.Proofs.YthjmlmognbenoaaDoorW.PrintLast Go.Proofs.YthjmlmognbenoaaDoorW.PrintMore
set_option linter.unusedVariables false
theorem Deb.pos {w : World} (h : Deb w) : 0 < w.heap.size := by
  have := World.block_lt_of_cell? w _ (h 0 (by omega))
  simpa using this
theorem Deb.keep {w w' : World} (h : Deb w) (hb : Below w.heap.size w w') : Deb w' := h.below h.pos hb
theorem has_yes (h : Int) (l : List Int) (car : Int) (hc : 0 ≤ car ∧ car < (l.length : Int)) : calls_Calls_has.f h l car = some true := by
  unfold calls_Calls_has.f
  rw [if_pos (by omega), decide_eq_true (by omega)]
theorem has_not (h : Int) (l : List Int) (car : Int) (hc : ¬ (0 ≤ car ∧ car < (l.length : Int))) : calls_Calls_has.f h l car = some false := by
  unfold calls_Calls_has.f
  by_cases h0 : 0 ≤ car
  · rw [if_pos (by omega), decide_eq_false (by omega)]
  · rw [if_neg (by omega)]
def nextF (h : Int) (l : List Int) (car pos halls : Int) : Option Int :=
  if l.length ≤ 1000000 then (if 0 ≤ car ∧ car < (l.length : Int) then (if (0 ≤ pos ∧ pos ≤ 1000000) ∧ (0 ≤ rd l car ∧ rd l car < 4294967296) then some (nextI (rd l car).toNat (Go.bits .and .u32 h halls).toNat pos) else none) else some (-1)) else none
theorem and_range (x y : Int) : 0 ≤ Go.bits .and .u32 x y ∧ Go.bits .and .u32 x y < 4294967296 := by
  rw [bits_and32, IntKind.wrap_u32]
  omega
theorem Next_calls (h : Int) (A0 : Option Addr) (c0 : Nat) (l0 : List Int) (car pos halls r : Int) (w : World) (hr0 : Kd.C (Kd.int .u32) w A0 l0.length l0) (hc : l0.length ≤ c0) (hf : nextF h l0 car pos halls = some r) (hD : Deb w) :
    Calls Tryd.prog 16 #[.agg #[.int .u32 h, .slice A0 l0.length c0], .int .i64 car, .int .i64 pos, .int .u32 halls] w fun e w' => e = .returned (.int .i64 r) ∧ Below w.heap.size w w' := by
  unfold nextF at hf
  split at hf
  · rename_i hl
    split at hf
    · rename_i hcar
      split at hf
      · rename_i hp
        simp only [Option.some.injEq] at hf
        subst hf
        obtain ⟨k, rfl⟩ := Int.eq_ofNat_of_zero_le hcar.1
        have ha := and_range h halls
        exact callsIn_wide.1 (Next_in 5 (Nat.le_refl _) h halls pos k (rd l0 (k : Int)).toNat (Go.bits .and .u32 h halls).toNat A0 c0 l0 w hD hr0 hc hl (by omega) (by omega) (by omega) (by omega) (by omega) hp.1)
      · exact absurd hf (by simp)
    · rename_i hcar
      simp only [Option.some.injEq] at hf
      subst hf
      exact Next_none h car pos halls A0 c0 l0 w hr0 hc (has_not h l0 car hcar)
  · exact absurd hf (by simp)
end Go.Proofs.YthjmlmognbenoaaDoor.PAll
namespace Go.Proofs.YthjmlmognbenoaaDoor
open Go.RowKit
/-- What the walk has put in a temporary's place is told in its own words again. -/
theorem meet_at {Q : Exit → Act → World → Prop} {e : Exit} {l : List Value} {df : List Deferred} {w : World} (i : Nat) (v : Value) (h : l[i]? = some v) (k : Q e { tmps := (l.set i v).toArray, defers := df } w) : Q e { tmps := l.toArray, defers := df } w := by
  have e : l.set i v = l := by
    apply List.ext_getElem?
    intro j
    rw [List.getElem?_set]
    split
    · rename_i hj
      subst hj
      rw [h]
      split
      · rfl
      · rename_i h2
        rw [List.getElem?_eq_none (by omega)] at h
        exact h
    · rfl
  rwa [e] at k
end Go.Proofs.YthjmlmognbenoaaDoor
end
