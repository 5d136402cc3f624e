/- The walk of (Calls).own, by hand (no statement stands here). -/
import Derived.Test.YthjmlmognbenoaaDoorPAllx0
import Derived.Laws.CopyOwn
namespace Go.Proofs.YthjmlmognbenoaaDoor.PAll
open Go.RowKit Go.Proofs.YthjmlmognbenoaaDoorW.PrintWords Go.Proofs.YthjmlmognbenoaaDoorW.PrintLast Go.Proofs.YthjmlmognbenoaaDoorW.PrintMore
set_option linter.unusedVariables false
set_option linter.unusedSimpArgs false
theorem own_i23 : (Tryd.prog.info? 23).map (fun i => (i.zero, i.size, i.bytes)) = some (some (.int .u32 0), 1, 4) := by kernel_rfl
theorem own_sz : (Tryd.prog.info? 23).map (·.size) = some 1 := by kernel_rfl
theorem own_row (W : World) (base N : Nat) (l : List Int) (hb : base ≤ N) (hm : l.length ≤ 1000000) (h : W.heap[N]? = some (.cells (nums .u32 l).toArray 23 (0, 0))) : W.ownsRow base 23 1 (.slice (some ⟨N, 0, none⟩) l.length l.length) l.length (nums .u32 l) := by
  have hl : (nums .u32 l).length = l.length := by simp [nums]
  exact ⟨by rw [hl, Nat.mul_one], .inr ⟨N, l.length, (nums .u32 l).toArray, rfl, hb, h, Nat.le_refl _, by simp only [maxLen]; omega, by simp [hl], by rw [Nat.mul_one, List.take_of_length_le (by simp [hl])]⟩⟩
theorem own_splice (l : List Int) : splice (nums .u32 (List.replicate l.length 0)) 0 (nums .u32 l) = nums .u32 l := by
  unfold splice
  rw [List.take_zero, List.nil_append, List.drop_of_length_le (by simp [nums]), List.append_nil]
set_option maxRecDepth 100000 in
set_option maxHeartbeats 2000000 in
theorem own_calls (a0 : Int) (A0 : Option Addr) (c0 : Nat) (l0 : List Int) (w : World) (hr0 : Kd.C (Kd.int .u32) w A0 l0.length l0) (hl : l0.length ≤ 1000000) :
    Calls Tryd.prog 22 #[.agg #[.int .u32 a0, .slice A0 l0.length c0]] w fun e w' => ∃ (A : Option Addr) (c : Nat), e = .returned (.agg #[.int .u32 a0, .slice A l0.length c]) ∧ Kd.R (Kd.int .u32) 23 w' w.heap.size (fun _ => True) (.slice A l0.length c) l0 ∧ Below w.heap.size w w' := by
  have hu27 := Tryd.underlying27
  have hmk := print_make (P := Tryd.prog) 25 23 .u32 4 Tryd.underlying25 own_i23 (by decide) l0.length (by omega)
  have hmc : (madeCells #[Value.int .u32 0] l0.length) = (nums .u32 (List.replicate l0.length 0)).toArray := by
    apply Array.ext
    · simp [madeCells, nums]
    · intro i h1 h2
      simp [nums, madeCells, Nat.mod_one]
  simp only [hmc] at hmk
  clear hmc
  have HR0 := Aside0.mk hr0
  have HL := Aside0.mk hl
  clear hr0 hl
  go_enter Tryd.func22, Tryd.ntmps22
  go_upto_region 1 with (fail)
  have hB2 : ((w.alloc (.cells #[.int .u32 a0, .slice A0 l0.length c0] 27)).alloc (.cells #[.int .u32 0, .slice none 0 0] 27)).heap[w.heap.size]? = some (.cells #[.int .u32 a0, .slice A0 l0.length c0] 27 (0, 0)) := blk_alloc (blk_new w _) _
  have hB4 : ((w.alloc (.cells #[.int .u32 a0, .slice A0 l0.length c0] 27)).alloc (.cells #[.int .u32 0, .slice none 0 0] 27)).heap[w.heap.size + 1]? = some (.cells #[.int .u32 0, .slice none 0 0] 27 (0, 0)) := by
    have := blk_new (w.alloc (.cells #[.int .u32 a0, .slice A0 l0.length c0] 27)) (.cells #[.int .u32 0, .slice none 0 0] 27)
    rwa [World.size_alloc] at this
  have hbl : Below w.heap.size w ((w.alloc (.cells #[.int .u32 a0, .slice A0 l0.length c0] 27)).alloc (.cells #[.int .u32 0, .slice none 0 0] 27)) := below_alloc (below_alloc (Below.refl _ _) _) _
  generalize hW : (w.alloc (.cells #[.int .u32 a0, .slice A0 l0.length c0] 27)).alloc (.cells #[.int .u32 0, .slice none 0 0] 27) = W at hB2 hB4 hbl ⊢
  clear hW
  obtain ⟨G, hG⟩ : ∃ G, G = w.heap.size := ⟨_, rfl⟩
  have hG2 : w.heap.size + 1 = G + 1 := by rw [hG]
  rw [hG2] at hB4
  rw [← hG] at hB2
  have HG := Aside0.mk hG
  have e1 := (blk_cell hB2 1).trans (rfl : _ = some (Value.slice A0 l0.length c0))
  simp only [← hG, hG2]
  have e2 := fun o : Obj => (blk_cell (blk_alloc hB2 o) 1).trans (rfl : _ = some (Value.slice A0 l0.length c0))
  have HBG := Aside0.mk hB2
  have HBH := Aside0.mk hB4
  have HBW := Aside0.mk hbl
  have hrow := blk_new W (.cells (nums .u32 (List.replicate l0.length 0)).toArray 23)
  have HROW := Aside0.mk hrow
  have hsrc : ∀ (W' : World), Below w.heap.size w W' → 0 < (nums .u32 l0).length → ∃ ad, A0 = some ad ∧ ∀ j v, (nums .u32 l0)[j]? = some v → W'.cell? (ad.add j) = some v := fun W' hb hp => by
    have hpl : 0 < l0.length := by simpa [nums] using hp
    obtain ⟨ad, e, _⟩ := Kd.at_int HR0.out 0 (by omega) (by omega)
    refine ⟨ad, e, fun j v hv => ?_⟩
    simp only [nums, List.getElem?_map, Option.map_eq_some_iff] at hv
    obtain ⟨x, hx, rfl⟩ := hv
    have hj : j < l0.length := (List.getElem?_eq_some_iff.1 hx).1
    obtain ⟨ad', e', hc⟩ := Kd.at_int HR0.out (j : Int) (by omega) (by omega)
    rw [e] at e'
    cases e'
    rw [Int.toNat_natCast] at hc
    have hr : rd l0 (j : Int) = x := by
      unfold rd
      rw [Int.toNat_natCast, List.getD_eq_getElem?_getD, hx, Option.getD_some]
    rw [hr] at hc
    exact (hb.cell (World.block_lt_of_cell? w _ hc)).trans hc
  have HSRC := Aside0.mk hsrc
  clear hG hG2 hB2 hB4 hbl hrow hsrc
  go_wp2_with (first | ((with_reducible refine gate_builtin (b := .copy) (xs := #[.tmp 8, .tmp 10]) rfl ?_); refine wpList_copy_splice rfl (.tmp 8) (.tmp 10) 25 25 rfl 23 Tryd.underlying25 own_sz (some ⟨W.heap.size, 0, none⟩) A0 l0.length l0.length l0.length c0 rfl rfl W.heap.size 0 (nums .u32 (List.replicate l0.length 0)) 23 HROW.out (nums .u32 l0) (by simp [nums]) (fun hp => ⟨rfl, HSRC.out _ (below_alloc HBW.out _) hp⟩) (by simp [nums]) (by intro v hv; simp only [nums, List.mem_map] at hv; obtain ⟨x, _, rfl⟩ := hv; rfl) W.heap.size W (below_alloc (Below.refl _ _) _) (Nat.le_refl _) ?_; intro w2 hg2 hb2; obtain ⟨N, hN⟩ : ∃ N, N = W.heap.size := ⟨_, rfl⟩; have hgr := hg2.out; rw [own_splice l0, ← hN] at hgr; have HGR := Aside0.mk hgr; have HN := Aside0.mk hN; have HBG2 := Aside0.mk (blk_below HBG.out hb2); have HBH2 := Aside0.mk (blk_below HBH.out hb2); have HBW2 := Aside0.mk (below_step HBW.out hb2); clear hg2 hb2 hgr e1 e2; rw [← hN]; clear hN; have k1 := (blk_cell HBG2.out 1).trans (rfl : _ = some (Value.slice A0 l0.length c0)); have z1 := blk_frozen HBG2.out 1; have hG3 := blk_put HBG2.out 1 (.slice (some ⟨N, 0, none⟩) l0.length l0.length) (cs' := #[.int .u32 a0, .slice (some ⟨N, 0, none⟩) l0.length l0.length]) rfl; have hH3 := blk_far HBH2.out (p := ⟨G, 1, none⟩) (by simp) (.slice (some ⟨N, 0, none⟩) l0.length l0.length); have k2 := (blk_cell hG3 0).trans (rfl : _ = some (Value.int .u32 a0)); have k3 := (blk_cell hG3 1).trans (rfl : _ = some (Value.slice (some ⟨N, 0, none⟩) l0.length l0.length)); have h0 := (blk_cell hH3 0).trans (rfl : _ = some (Value.int .u32 0)); have h1 := (blk_cell hH3 1).trans (rfl : _ = some (Value.slice none 0 0)); have y0 := blk_frozen hH3 0; have y1 := blk_frozen hH3 1; have HH3 := Aside0.mk hH3; clear hG3 hH3))
  have b1 := blk_put HH3.out 0 (.int .u32 a0) (cs' := #[.int .u32 a0, .slice none 0 0]) rfl
  have b2 := blk_put b1 1 (.slice (some ⟨N, 0, none⟩) l0.length l0.length) (cs' := #[.int .u32 a0, .slice (some ⟨N, 0, none⟩) l0.length l0.length]) rfl
  have hsz := blk_lt HBH.out
  have hNG : N ≠ G := by have := HN.out; omega
  have hNH : N ≠ G + 1 := by have := HN.out; omega
  have r1 := blk_far HGR.out (p := ⟨G, 1, none⟩) hNG (.slice (some ⟨N, 0, none⟩) l0.length l0.length)
  have r2 := blk_far r1 (p := ⟨G + 1, 0, none⟩) hNH (.int .u32 a0)
  have r3 := blk_far r2 (p := ⟨G + 1, 1, none⟩) hNH (.slice (some ⟨N, 0, none⟩) l0.length l0.length)
  have hg : w.heap.size ≤ G := by rw [HG.out]; exact Nat.le_refl _
  have hB := below_set (below_set (below_set (j := 1) (v := .slice (some ⟨N, 0, none⟩) l0.length l0.length) HBW2.out hg) (j := 0) (v := .int .u32 a0) (Nat.le_succ_of_le hg)) (j := 1) (v := .slice (some ⟨N, 0, none⟩) l0.length l0.length) (Nat.le_succ_of_le hg)
  generalize ((w2.setCell ⟨G, 1, none⟩ (.slice (some ⟨N, 0, none⟩) l0.length l0.length)).setCell ⟨G + 1, 0, none⟩ (.int .u32 a0)).setCell ⟨G + 1, 1, none⟩ (.slice (some ⟨N, 0, none⟩) l0.length l0.length) = W5 at b2 r3 hB ⊢
  refine bodyPost_ret (results_cell_row rfl _ _ (G + 1) 27 #[.int .u32 a0, .slice (some ⟨N, 0, none⟩) l0.length l0.length] (0, 0) _ rfl b2 Tryd.underlying27 rfl (by kernel_rfl)) rfl ?_
  refine ⟨some ⟨N, 0, none⟩, l0.length, rfl, ?_, hB⟩
  exact Kd.R_of_own (enc := Value.int .u32) (h1 := fun _ => rfl) (own_row W5 w.heap.size N l0 (by have := HN.out; omega) (by have := HL.out; omega) r3) (fun _ _ => trivial)
end Go.Proofs.YthjmlmognbenoaaDoor.PAll
