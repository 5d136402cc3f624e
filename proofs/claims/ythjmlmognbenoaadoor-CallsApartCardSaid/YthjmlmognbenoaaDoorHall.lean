/- The walk of (Calls).Hall, by hand (no statement stands here). -/
import Derived.Test.YthjmlmognbenoaaDoorOwn
import Derived.Test.YthjmlmognbenoaaDoorPAllx2
namespace Go.Proofs.YthjmlmognbenoaaDoor.PAll
open Go.RowKit Go.Proofs.YthjmlmognbenoaaDoorW.PrintWords Go.Proofs.YthjmlmognbenoaaDoorW.PrintLast Go.Proofs.YthjmlmognbenoaaDoorW.PrintMore
set_option linter.unusedVariables false
set_option linter.unusedSimpArgs false
/-- A variable of the type Calls, and the result's, made one behind the other. -/
theorem two_boxes (w : World) (a0 : Int) (A0 : Option Addr) (n c0 : Nat) : ((w.alloc (.cells #[.int .u32 a0, .slice A0 n c0] 27)).alloc (.cells #[.int .u32 0, .slice none 0 0] 27)).heap[w.heap.size]? = some (.cells #[.int .u32 a0, .slice A0 n c0] 27 (0, 0)) ∧ ((w.alloc (.cells #[.int .u32 a0, .slice A0 n c0] 27)).alloc (.cells #[.int .u32 0, .slice none 0 0] 27)).heap[w.heap.size + 1]? = some (.cells #[.int .u32 0, .slice none 0 0] 27 (0, 0)) ∧ Below w.heap.size w ((w.alloc (.cells #[.int .u32 a0, .slice A0 n c0] 27)).alloc (.cells #[.int .u32 0, .slice none 0 0] 27)) := by
  refine ⟨blk_alloc (blk_new w _) _, ?_, below_alloc (below_alloc (Below.refl _ _) _) _⟩
  have := blk_new (w.alloc (.cells #[.int .u32 a0, .slice A0 n c0] 27)) (.cells #[.int .u32 0, .slice none 0 0] 27)
  rwa [World.size_alloc] at this
set_option maxRecDepth 100000 in
set_option maxHeartbeats 2000000 in
theorem Hall_calls (h fl fs bt : Int) (A0 : Option Addr) (c0 : Nat) (l0 : List Int) (w : World) (hr0 : Kd.C (Kd.int .u32) w A0 l0.length l0) (hl : l0.length ≤ 1000000) (hb : calls_bit.f fl fs = some bt) :
    Calls Tryd.prog 11 #[.agg #[.int .u32 h, .slice A0 l0.length c0], .int .i64 fl, .int .i64 fs] w fun e w' => ∃ (A : Option Addr) (c : Nat), e = .returned (.tuple #[.agg #[.int .u32 (Go.bits .or .u32 h bt), .slice A l0.length c], .bool (bt != 0)]) ∧ Kd.R (Kd.int .u32) 23 w' w.heap.size (fun _ => True) (.slice A l0.length c) l0 ∧ Below w.heap.size w w' := by
  have hu27 := Tryd.underlying27
  have HR0 := Aside0.mk hr0
  have HL := Aside0.mk hl
  have HBT := Aside0.mk hb
  clear hr0 hl hb
  go_enter Tryd.func11, Tryd.ntmps11
  go_upto_region 1 with (fail)
  obtain ⟨hB2, hB4, hbl⟩ := two_boxes w h A0 l0.length c0
  generalize hW : (w.alloc (.cells #[.int .u32 h, .slice A0 l0.length c0] 27)).alloc (.cells #[.int .u32 0, .slice none 0 0] 27) = W at hB2 hB4 hbl ⊢
  clear hW
  obtain ⟨G, hG⟩ : ∃ G, G = w.heap.size := ⟨_, rfl⟩
  have hG2 : w.heap.size + 1 = G + 1 := by rw [hG]
  rw [hG2] at hB4
  rw [← hG] at hB2
  have HG := Aside0.mk hG
  simp only [← hG, hG2]
  have HBG := Aside0.mk hB2
  have HBH := Aside0.mk hB4
  have HBW := Aside0.mk hbl
  have k0 := (blk_cell hB2 0).trans (rfl : _ = some (Value.int .u32 h))
  have k1 := (blk_cell hB2 1).trans (rfl : _ = some (Value.slice A0 l0.length c0))
  clear hG hG2 hB2 hB4 hbl
  go_wp2_with (first
    | (go_at_call 21; refine (calls_bit.calls fl fs bt _ HBT.out).mono ?_; rintro e w1 ⟨rfl, hb1⟩; have HBW1 := Aside0.mk (below_step HBW.out hb1); have HBG1 := Aside0.mk (blk_below HBG.out hb1); have HBH1 := Aside0.mk (blk_below HBH.out hb1); clear hb1 k0 k1; have k0 := (blk_cell HBG1.out 0).trans (rfl : _ = some (Value.int .u32 h)); have k1 := (blk_cell HBG1.out 1).trans (rfl : _ = some (Value.slice A0 l0.length c0)))
    | (go_at_call 22; refine (own_calls h A0 c0 l0 _ (Kd.C_below HR0.out HBW1.out) HL.out).mono ?_; rintro e w2 ⟨A2, c2, rfl, hR2, hb2⟩; have HR2 := Aside0.mk hR2; have HSZ := Aside0.mk (below_size HBW1.out); have HBW2 := Aside0.mk (below_step HBW1.out hb2); have HBG2 := Aside0.mk (blk_below HBG1.out hb2); have HBH2 := Aside0.mk (blk_below HBH1.out hb2); clear hR2 hb2 k0 k1; have k0 := (blk_cell HBG2.out 0).trans (rfl : _ = some (Value.int .u32 h)); have k1 := (blk_cell HBG2.out 1).trans (rfl : _ = some (Value.slice A0 l0.length c0)); have z0 := blk_frozen HBG2.out 0; have z1 := blk_frozen HBG2.out 1; have b1 := blk_put HBG2.out 0 (.int .u32 h) (cs' := #[.int .u32 h, .slice A0 l0.length c0]) rfl; have b2 := blk_put b1 1 (.slice A2 l0.length c2) (cs' := #[.int .u32 h, .slice A2 l0.length c2]) rfl; have m0 := (blk_cell b2 0).trans (rfl : _ = some (Value.int .u32 h)); have y0 := blk_frozen b2 0; have b3 := blk_put b2 0 (.int .u32 (Go.bits .or .u32 h bt)) (cs' := #[.int .u32 (Go.bits .or .u32 h bt), .slice A2 l0.length c2]) rfl; have n0 := (blk_cell b3 0).trans (rfl : _ = some (Value.int .u32 (Go.bits .or .u32 h bt))); have n1 := (blk_cell b3 1).trans (rfl : _ = some (Value.slice A2 l0.length c2)); have d1 := blk_far HBH2.out (p := ⟨G, 0, none⟩) (by simp) (.int .u32 h); have d2 := blk_far d1 (p := ⟨G, 1, none⟩) (by simp) (.slice A2 l0.length c2); have d3 := blk_far d2 (p := ⟨G, 0, none⟩) (by simp) (.int .u32 (Go.bits .or .u32 h bt)); have h0 := (blk_cell d3 0).trans (rfl : _ = some (Value.int .u32 0)); have h1 := (blk_cell d3 1).trans (rfl : _ = some (Value.slice none 0 0)); have x0 := blk_frozen d3 0; have x1 := blk_frozen d3 1; have HB1 := Aside0.mk b1; have HB2 := Aside0.mk b2; have HB3 := Aside0.mk b3; have HD3 := Aside0.mk d3; clear b1 b2 b3 d1 d2 d3))
  have hE : ∀ q, q ∈ 23 :: (Kd.int IntKind.u32).E → q ≠ 27 := by intro q hq; have e : (Kd.int IntKind.u32).E = [] := rfl; rw [e] at hq; simp at hq; omega
  have hg : w.heap.size ≤ G := by rw [HG.out]; exact Nat.le_refl _
  have hg1 : w.heap.size ≤ G + 1 := Nat.le_succ_of_le hg
  have r0 := Kd.R_lower HR2.out HSZ.out
  have r1 := Kd.R_set r0 HBG2.out hE 0 (.int .u32 h)
  have r2 := Kd.R_set r1 HB1.out hE 1 (.slice A2 l0.length c2)
  have r3 := Kd.R_set r2 HB2.out hE 0 (.int .u32 (Go.bits .or .u32 h bt))
  have r4 := Kd.R_set r3 HD3.out hE 0 (.int .u32 (Go.bits .or .u32 h bt))
  have f1 := blk_put HD3.out 0 (.int .u32 (Go.bits .or .u32 h bt)) (cs' := #[.int .u32 (Go.bits .or .u32 h bt), .slice none 0 0]) rfl
  have r5 := Kd.R_set r4 f1 hE 1 (.slice A2 l0.length c2)
  have f2 := blk_put f1 1 (.slice A2 l0.length c2) (cs' := #[.int .u32 (Go.bits .or .u32 h bt), .slice A2 l0.length c2]) rfl
  have hB := below_set (j := 1) (v := .slice A2 l0.length c2) (below_set (j := 0) (v := .int .u32 (Go.bits .or .u32 h bt)) (below_set (j := 0) (v := .int .u32 (Go.bits .or .u32 h bt)) (below_set (j := 1) (v := .slice A2 l0.length c2) (below_set (j := 0) (v := .int .u32 h) HBW2.out hg) hg) hg) hg1) hg1
  generalize ((((w2.setCell ⟨G, 0, none⟩ (.int .u32 h)).setCell ⟨G, 1, none⟩ (.slice A2 l0.length c2)).setCell ⟨G, 0, none⟩ (.int .u32 (Go.bits .or .u32 h bt))).setCell ⟨G + 1, 0, none⟩ (.int .u32 (Go.bits .or .u32 h bt))).setCell ⟨G + 1, 1, none⟩ (.slice A2 l0.length c2) = W5 at f2 r5 hB ⊢
  refine bodyPost_ret (results_ct rfl _ _ (G + 1) 27 #[.int .u32 (Go.bits .or .u32 h bt), .slice A2 l0.length c2] (0, 0) _ rfl f2 Tryd.underlying27 rfl (by kernel_rfl)) rfl ?_
  exact ⟨A2, c2, rfl, r5, hB⟩
end Go.Proofs.YthjmlmognbenoaaDoor.PAll
