/- The walks of (Calls).Done, by hand (no statement stands here). -/
import Derived.Test.YthjmlmognbenoaaDoorHall
import Derived.Test.YthjmlmognbenoaaDoorPAllx5
namespace Go.Proofs.YthjmlmognbenoaaDoor.PAll
open Go.RowKit Go.Proofs.YthjmlmognbenoaaDoorW.PrintWords Go.Proofs.YthjmlmognbenoaaDoorW.PrintLast Go.Proofs.YthjmlmognbenoaaDoorW.PrintMore
set_option linter.unusedVariables false
set_option linter.unusedSimpArgs false
def hallsD (h bt : Int) : Bool → Int
  | true => Go.bits .andNot .u32 h bt
  | false => h
set_option maxRecDepth 100000 in
set_option maxHeartbeats 4000000 in
theorem Done_not (h car fl bt : Int) (hh : Bool) (A0 : Option Addr) (c0 : Nat) (l0 : List Int) (w : World) (hr0 : Kd.C (Kd.int .u32) w A0 l0.length l0) (hl : l0.length ≤ 1000000) (hb : calls_bit.f fl 32 = some bt) (hhas : calls_Calls_has.f h l0 car = some false) :
    Calls Tryd.prog 14 #[.agg #[.int .u32 h, .slice A0 l0.length c0], .int .i64 car, .int .i64 fl, .bool hh] w fun e w' => ∃ (A : Option Addr) (c : Nat), e = .returned (.agg #[.int .u32 (hallsD h bt hh), .slice A l0.length c]) ∧ Kd.R (Kd.int .u32) 23 w' w.heap.size (fun _ => True) (.slice A l0.length c) l0 ∧ Below w.heap.size w w' := by
  have hu27 := Tryd.underlying27
  have HR0 := Aside0.mk hr0
  have HL := Aside0.mk hl
  have HBT := Aside0.mk hb
  have HE := Aside0.mk (show ∀ q, q ∈ 23 :: (Kd.int IntKind.u32).E → q ≠ 27 by intro q hq; have e : (Kd.int IntKind.u32).E = [] := rfl; rw [e] at hq; simp at hq; omega)
  have HHAS := Aside0.mk hhas
  clear hhas
  clear hr0 hl hb
  cases hh with
  | false =>
    go_enter Tryd.func14, Tryd.ntmps14
    go_upto_region 1 with (fail)
    obtain ⟨hB2, hB4, hbl⟩ := two_boxes w h A0 l0.length c0
    generalize hW : (w.alloc (.cells #[.int .u32 h, .slice A0 l0.length c0] 27)).alloc (.cells #[.int .u32 0, .slice none 0 0] 27) = W at hB2 hB4 hbl ⊢
    clear hW
    obtain ⟨G, hG⟩ : ∃ G, G = w.heap.size := ⟨_, rfl⟩
    have hG2 : w.heap.size + 1 = G + 1 := by rw [hG]
    rw [hG2] at hB4
    rw [← hG] at hB2
    have HGG := Aside0.mk (show w.heap.size ≤ G by rw [hG]; exact Nat.le_refl _)
    simp only [← hG, hG2]
    have HBG := Aside0.mk hB2
    have HBH := Aside0.mk hB4
    have HBW := Aside0.mk hbl
    have k0 := (blk_cell hB2 0).trans (rfl : _ = some (Value.int .u32 h))
    have k1 := (blk_cell hB2 1).trans (rfl : _ = some (Value.slice A0 l0.length c0))
    clear hG hG2 hB2 hB4 hbl
    go_wp2_with (first
      | (go_at_call 21; refine (calls_bit.calls fl 32 bt _ HBT.out).mono ?_; rintro e w1 ⟨rfl, hb1⟩; have HBW1 := Aside0.mk (below_step HBW.out hb1); have HBG1 := Aside0.mk (blk_below HBG.out hb1); have HBH1 := Aside0.mk (blk_below HBH.out hb1); clear hb1 k0 k1; have k0 := (blk_cell HBG1.out 0).trans (rfl : _ = some (Value.int .u32 h)); have k1 := (blk_cell HBG1.out 1).trans (rfl : _ = some (Value.slice A0 l0.length c0)))
      | (go_at_call 22; refine (own_calls h A0 c0 l0 _ (Kd.C_below HR0.out HBW1.out) HL.out).mono ?_; rintro e w2 ⟨A2, c2, rfl, hR2, hb2⟩; have HR2 := Aside0.mk (Kd.R_lower hR2 (below_size HBW1.out)); have HBW2 := Aside0.mk (below_step HBW1.out hb2); have HBG2 := Aside0.mk (blk_below HBG1.out hb2); have HBH2 := Aside0.mk (blk_below HBH1.out hb2); clear hR2 hb2 k0 k1; have k0 := (blk_cell HBG2.out 0).trans (rfl : _ = some (Value.int .u32 h)); have k1 := (blk_cell HBG2.out 1).trans (rfl : _ = some (Value.slice A0 l0.length c0)); have z0 := blk_frozen HBG2.out 0; have z1 := blk_frozen HBG2.out 1; have b1 := blk_put HBG2.out 0 (.int .u32 h) (cs' := #[.int .u32 h, .slice A0 l0.length c0]) rfl; have b2 := blk_put b1 1 (.slice A2 l0.length c2) (cs' := #[.int .u32 h, .slice A2 l0.length c2]) rfl; have n0 := (blk_cell b2 0).trans (rfl : _ = some (Value.int .u32 h)); have n1 := (blk_cell b2 1).trans (rfl : _ = some (Value.slice A2 l0.length c2)); have d1 := blk_far HBH2.out (p := ⟨G, 0, none⟩) (by simp) (.int .u32 h); have d2 := blk_far d1 (p := ⟨G, 1, none⟩) (by simp) (.slice A2 l0.length c2); have h0 := (blk_cell d2 0).trans (rfl : _ = some (Value.int .u32 0)); have h1 := (blk_cell d2 1).trans (rfl : _ = some (Value.slice none 0 0)); have x0 := blk_frozen d2 0; have x1 := blk_frozen d2 1; have HR3 := Aside0.mk (Kd.R_set (Kd.R_set HR2.out HBG2.out HE.out 0 (.int .u32 h)) b1 HE.out 1 (.slice A2 l0.length c2)); have HBW3 := Aside0.mk (below_set (j := 1) (v := .slice A2 l0.length c2) (below_set (j := 0) (v := .int .u32 h) HBW2.out HGG.out) HGG.out); have HB3 := Aside0.mk b2; have HD3 := Aside0.mk d2; clear b1 b2 d1 d2)
      | (go_at_call 23; refine (calls_Calls_has.calls h A2 c2 l0 car false _ (Kd.R_reads' HR3.out).2.2 (Kd.R_reads' HR3.out).2.1 HHAS.out).mono ?_; rintro e w4 ⟨rfl, hb4⟩; have HR4 := Aside0.mk (Kd.R_below HR3.out hb4); have HBW4 := Aside0.mk (below_step HBW3.out hb4); have HB4 := Aside0.mk (blk_below HB3.out hb4); have HD4 := Aside0.mk (blk_below HD3.out hb4); clear hb4 k0 k1 n0 n1 h0 h1 x0 x1 z0 z1; have n0 := (blk_cell HB4.out 0).trans (rfl : _ = some (Value.int .u32 h)); have n1 := (blk_cell HB4.out 1).trans (rfl : _ = some (Value.slice A2 l0.length c2)); have h0 := (blk_cell HD4.out 0).trans (rfl : _ = some (Value.int .u32 0)); have h1 := (blk_cell HD4.out 1).trans (rfl : _ = some (Value.slice none 0 0)); have x0 := blk_frozen HD4.out 0; have x1 := blk_frozen HD4.out 1; have u1 := blk_put HB4.out 0 (.int .u32 (Go.bits .andNot .u32 h bt)) (cs' := #[.int .u32 (Go.bits .andNot .u32 h bt), .slice A2 l0.length c2]) rfl; have u2 := blk_far HD4.out (p := ⟨G, 0, none⟩) (by simp) (.int .u32 (Go.bits .andNot .u32 h bt)); have U1 := Aside0.mk u1; have U2 := Aside0.mk u2; have s0 := (blk_cell u1 0).trans (rfl : _ = some (Value.int .u32 (Go.bits .andNot .u32 h bt))); have s1 := (blk_cell u1 1).trans (rfl : _ = some (Value.slice A2 l0.length c2)); have s2 := (blk_cell u2 0).trans (rfl : _ = some (Value.int .u32 0)); have s3 := (blk_cell u2 1).trans (rfl : _ = some (Value.slice none 0 0)); have s4 := blk_frozen u2 0; have s5 := blk_frozen u2 1; have s6 := blk_frozen HB4.out 0; clear u1 u2))
    have hg1 : w.heap.size ≤ G + 1 := Nat.le_succ_of_le HGG.out
    have f1 := blk_put HD4.out 0 (.int .u32 h) (cs' := #[.int .u32 h, .slice none 0 0]) rfl
    have f2 := blk_put f1 1 (.slice A2 l0.length c2) (cs' := #[.int .u32 h, .slice A2 l0.length c2]) rfl
    have r5 := Kd.R_set (Kd.R_set HR4.out HD4.out HE.out 0 (.int .u32 h)) f1 HE.out 1 (.slice A2 l0.length c2)
    have hB := below_set (j := 1) (v := (.slice A2 l0.length c2)) (below_set (j := 0) (v := .int .u32 h) HBW4.out hg1) hg1
    generalize (w4.setCell ⟨G + 1, 0, none⟩ (.int .u32 h)).setCell ⟨G + 1, 1, none⟩ (.slice A2 l0.length c2) = W5 at f2 r5 hB ⊢
    refine bodyPost_ret (results_cell_row rfl _ _ (G + 1) 27 #[.int .u32 h, .slice A2 l0.length c2] (0, 0) _ rfl f2 Tryd.underlying27 rfl (by kernel_rfl)) rfl ?_
    exact ⟨A2, c2, rfl, r5, hB⟩
  | true =>
    go_enter Tryd.func14, Tryd.ntmps14
    go_upto_region 1 with (fail)
    obtain ⟨hB2, hB4, hbl⟩ := two_boxes w h A0 l0.length c0
    generalize hW : (w.alloc (.cells #[.int .u32 h, .slice A0 l0.length c0] 27)).alloc (.cells #[.int .u32 0, .slice none 0 0] 27) = W at hB2 hB4 hbl ⊢
    clear hW
    obtain ⟨G, hG⟩ : ∃ G, G = w.heap.size := ⟨_, rfl⟩
    have hG2 : w.heap.size + 1 = G + 1 := by rw [hG]
    rw [hG2] at hB4
    rw [← hG] at hB2
    have HGG := Aside0.mk (show w.heap.size ≤ G by rw [hG]; exact Nat.le_refl _)
    simp only [← hG, hG2]
    have HBG := Aside0.mk hB2
    have HBH := Aside0.mk hB4
    have HBW := Aside0.mk hbl
    have k0 := (blk_cell hB2 0).trans (rfl : _ = some (Value.int .u32 h))
    have k1 := (blk_cell hB2 1).trans (rfl : _ = some (Value.slice A0 l0.length c0))
    clear hG hG2 hB2 hB4 hbl
    go_wp2_with (first
      | (go_at_call 21; refine (calls_bit.calls fl 32 bt _ HBT.out).mono ?_; rintro e w1 ⟨rfl, hb1⟩; have HBW1 := Aside0.mk (below_step HBW.out hb1); have HBG1 := Aside0.mk (blk_below HBG.out hb1); have HBH1 := Aside0.mk (blk_below HBH.out hb1); clear hb1 k0 k1; have k0 := (blk_cell HBG1.out 0).trans (rfl : _ = some (Value.int .u32 h)); have k1 := (blk_cell HBG1.out 1).trans (rfl : _ = some (Value.slice A0 l0.length c0)))
      | (go_at_call 22; refine (own_calls h A0 c0 l0 _ (Kd.C_below HR0.out HBW1.out) HL.out).mono ?_; rintro e w2 ⟨A2, c2, rfl, hR2, hb2⟩; have HR2 := Aside0.mk (Kd.R_lower hR2 (below_size HBW1.out)); have HBW2 := Aside0.mk (below_step HBW1.out hb2); have HBG2 := Aside0.mk (blk_below HBG1.out hb2); have HBH2 := Aside0.mk (blk_below HBH1.out hb2); clear hR2 hb2 k0 k1; have k0 := (blk_cell HBG2.out 0).trans (rfl : _ = some (Value.int .u32 h)); have k1 := (blk_cell HBG2.out 1).trans (rfl : _ = some (Value.slice A0 l0.length c0)); have z0 := blk_frozen HBG2.out 0; have z1 := blk_frozen HBG2.out 1; have b1 := blk_put HBG2.out 0 (.int .u32 h) (cs' := #[.int .u32 h, .slice A0 l0.length c0]) rfl; have b2 := blk_put b1 1 (.slice A2 l0.length c2) (cs' := #[.int .u32 h, .slice A2 l0.length c2]) rfl; have n0 := (blk_cell b2 0).trans (rfl : _ = some (Value.int .u32 h)); have n1 := (blk_cell b2 1).trans (rfl : _ = some (Value.slice A2 l0.length c2)); have d1 := blk_far HBH2.out (p := ⟨G, 0, none⟩) (by simp) (.int .u32 h); have d2 := blk_far d1 (p := ⟨G, 1, none⟩) (by simp) (.slice A2 l0.length c2); have h0 := (blk_cell d2 0).trans (rfl : _ = some (Value.int .u32 0)); have h1 := (blk_cell d2 1).trans (rfl : _ = some (Value.slice none 0 0)); have x0 := blk_frozen d2 0; have x1 := blk_frozen d2 1; have HR3 := Aside0.mk (Kd.R_set (Kd.R_set HR2.out HBG2.out HE.out 0 (.int .u32 h)) b1 HE.out 1 (.slice A2 l0.length c2)); have HBW3 := Aside0.mk (below_set (j := 1) (v := .slice A2 l0.length c2) (below_set (j := 0) (v := .int .u32 h) HBW2.out HGG.out) HGG.out); have HB3 := Aside0.mk b2; have HD3 := Aside0.mk d2; clear b1 b2 d1 d2)
      | (go_at_call 23; refine (calls_Calls_has.calls h A2 c2 l0 car false _ (Kd.R_reads' HR3.out).2.2 (Kd.R_reads' HR3.out).2.1 HHAS.out).mono ?_; rintro e w4 ⟨rfl, hb4⟩; have HR4 := Aside0.mk (Kd.R_below HR3.out hb4); have HBW4 := Aside0.mk (below_step HBW3.out hb4); have HB4 := Aside0.mk (blk_below HB3.out hb4); have HD4 := Aside0.mk (blk_below HD3.out hb4); clear hb4 k0 k1 n0 n1 h0 h1 x0 x1 z0 z1; have n0 := (blk_cell HB4.out 0).trans (rfl : _ = some (Value.int .u32 h)); have n1 := (blk_cell HB4.out 1).trans (rfl : _ = some (Value.slice A2 l0.length c2)); have h0 := (blk_cell HD4.out 0).trans (rfl : _ = some (Value.int .u32 0)); have h1 := (blk_cell HD4.out 1).trans (rfl : _ = some (Value.slice none 0 0)); have x0 := blk_frozen HD4.out 0; have x1 := blk_frozen HD4.out 1; have u1 := blk_put HB4.out 0 (.int .u32 (Go.bits .andNot .u32 h bt)) (cs' := #[.int .u32 (Go.bits .andNot .u32 h bt), .slice A2 l0.length c2]) rfl; have u2 := blk_far HD4.out (p := ⟨G, 0, none⟩) (by simp) (.int .u32 (Go.bits .andNot .u32 h bt)); have U1 := Aside0.mk u1; have U2 := Aside0.mk u2; have s0 := (blk_cell u1 0).trans (rfl : _ = some (Value.int .u32 (Go.bits .andNot .u32 h bt))); have s1 := (blk_cell u1 1).trans (rfl : _ = some (Value.slice A2 l0.length c2)); have s2 := (blk_cell u2 0).trans (rfl : _ = some (Value.int .u32 0)); have s3 := (blk_cell u2 1).trans (rfl : _ = some (Value.slice none 0 0)); have s4 := blk_frozen u2 0; have s5 := blk_frozen u2 1; have s6 := blk_frozen HB4.out 0; clear u1 u2))
    have hg1 : w.heap.size ≤ G + 1 := Nat.le_succ_of_le HGG.out
    have f1 := blk_put U2.out 0 (.int .u32 (Go.bits .andNot .u32 h bt)) (cs' := #[.int .u32 (Go.bits .andNot .u32 h bt), .slice none 0 0]) rfl
    have f2 := blk_put f1 1 (.slice A2 l0.length c2) (cs' := #[.int .u32 (Go.bits .andNot .u32 h bt), .slice A2 l0.length c2]) rfl
    have r5 := Kd.R_set (Kd.R_set (Kd.R_set HR4.out HB4.out HE.out 0 (.int .u32 (Go.bits .andNot .u32 h bt))) U2.out HE.out 0 (.int .u32 (Go.bits .andNot .u32 h bt))) f1 HE.out 1 (.slice A2 l0.length c2)
    have hB := below_set (j := 1) (v := (.slice A2 l0.length c2)) (below_set (j := 0) (v := .int .u32 (Go.bits .andNot .u32 h bt)) (below_set (j := 0) (v := .int .u32 (Go.bits .andNot .u32 h bt)) HBW4.out HGG.out) hg1) hg1
    generalize ((w4.setCell ⟨G, 0, none⟩ (.int .u32 (Go.bits .andNot .u32 h bt))).setCell ⟨G + 1, 0, none⟩ (.int .u32 (Go.bits .andNot .u32 h bt))).setCell ⟨G + 1, 1, none⟩ (.slice A2 l0.length c2) = W5 at f2 r5 hB ⊢
    refine bodyPost_ret (results_cell_row rfl _ _ (G + 1) 27 #[.int .u32 (Go.bits .andNot .u32 h bt), .slice A2 l0.length c2] (0, 0) _ rfl f2 Tryd.underlying27 rfl (by kernel_rfl)) rfl ?_
    exact ⟨A2, c2, rfl, r5, hB⟩
set_option maxRecDepth 100000 in
set_option maxHeartbeats 4000000 in
theorem Done_has (h car fl bt : Int) (hh : Bool) (A0 : Option Addr) (c0 : Nat) (l0 : List Int) (w : World) (hr0 : Kd.C (Kd.int .u32) w A0 l0.length l0) (hl : l0.length ≤ 1000000) (hb : calls_bit.f fl 32 = some bt) (hhas : calls_Calls_has.f h l0 car = some true) (hcar : 0 ≤ car ∧ car < (l0.length : Int)) :
    Calls Tryd.prog 14 #[.agg #[.int .u32 h, .slice A0 l0.length c0], .int .i64 car, .int .i64 fl, .bool hh] w fun e w' => ∃ (A : Option Addr) (c : Nat), e = .returned (.agg #[.int .u32 (hallsD h bt hh), .slice A l0.length c]) ∧ Kd.R (Kd.int .u32) 23 w' w.heap.size (fun _ => True) (.slice A l0.length c) (l0.set car.toNat (Go.bits .andNot .u32 (rdOf 0 l0 car) bt)) ∧ Below w.heap.size w w' := by
  have hu27 := Tryd.underlying27
  have HR0 := Aside0.mk hr0
  have HL := Aside0.mk hl
  have HBT := Aside0.mk hb
  have HE := Aside0.mk (show ∀ q, q ∈ 23 :: (Kd.int IntKind.u32).E → q ≠ 27 by intro q hq; have e : (Kd.int IntKind.u32).E = [] := rfl; rw [e] at hq; simp at hq; omega)
  have HHAS := Aside0.mk hhas
  clear hhas
  obtain ⟨k, rfl⟩ := Int.eq_ofNat_of_zero_le hcar.1
  have HK := Aside0.mk (show k < l0.length by omega)
  have p1 : ((0 : Int) ≤ (k : Int)) = True := eq_true (by omega)
  have q1 : ((k : Int) < (l0.length : Int)) = True := eq_true hcar.2
  clear hcar
  clear hr0 hl hb
  cases hh with
  | false =>
    go_enter Tryd.func14, Tryd.ntmps14
    go_upto_region 1 with (fail)
    obtain ⟨hB2, hB4, hbl⟩ := two_boxes w h A0 l0.length c0
    generalize hW : (w.alloc (.cells #[.int .u32 h, .slice A0 l0.length c0] 27)).alloc (.cells #[.int .u32 0, .slice none 0 0] 27) = W at hB2 hB4 hbl ⊢
    clear hW
    obtain ⟨G, hG⟩ : ∃ G, G = w.heap.size := ⟨_, rfl⟩
    have hG2 : w.heap.size + 1 = G + 1 := by rw [hG]
    rw [hG2] at hB4
    rw [← hG] at hB2
    have HGG := Aside0.mk (show w.heap.size ≤ G by rw [hG]; exact Nat.le_refl _)
    simp only [← hG, hG2]
    have HBG := Aside0.mk hB2
    have HBH := Aside0.mk hB4
    have HBW := Aside0.mk hbl
    have k0 := (blk_cell hB2 0).trans (rfl : _ = some (Value.int .u32 h))
    have k1 := (blk_cell hB2 1).trans (rfl : _ = some (Value.slice A0 l0.length c0))
    clear hG hG2 hB2 hB4 hbl
    go_wp2_with (first
      | (go_at_call 21; refine (calls_bit.calls fl 32 bt _ HBT.out).mono ?_; rintro e w1 ⟨rfl, hb1⟩; have HBW1 := Aside0.mk (below_step HBW.out hb1); have HBG1 := Aside0.mk (blk_below HBG.out hb1); have HBH1 := Aside0.mk (blk_below HBH.out hb1); clear hb1 k0 k1; have k0 := (blk_cell HBG1.out 0).trans (rfl : _ = some (Value.int .u32 h)); have k1 := (blk_cell HBG1.out 1).trans (rfl : _ = some (Value.slice A0 l0.length c0)))
      | (go_at_call 22; refine (own_calls h A0 c0 l0 _ (Kd.C_below HR0.out HBW1.out) HL.out).mono ?_; rintro e w2 ⟨A2, c2, rfl, hR2, hb2⟩; have HR2 := Aside0.mk (Kd.R_lower hR2 (below_size HBW1.out)); have HBW2 := Aside0.mk (below_step HBW1.out hb2); have HBG2 := Aside0.mk (blk_below HBG1.out hb2); have HBH2 := Aside0.mk (blk_below HBH1.out hb2); clear hR2 hb2 k0 k1; have k0 := (blk_cell HBG2.out 0).trans (rfl : _ = some (Value.int .u32 h)); have k1 := (blk_cell HBG2.out 1).trans (rfl : _ = some (Value.slice A0 l0.length c0)); have z0 := blk_frozen HBG2.out 0; have z1 := blk_frozen HBG2.out 1; have b1 := blk_put HBG2.out 0 (.int .u32 h) (cs' := #[.int .u32 h, .slice A0 l0.length c0]) rfl; have b2 := blk_put b1 1 (.slice A2 l0.length c2) (cs' := #[.int .u32 h, .slice A2 l0.length c2]) rfl; have n0 := (blk_cell b2 0).trans (rfl : _ = some (Value.int .u32 h)); have n1 := (blk_cell b2 1).trans (rfl : _ = some (Value.slice A2 l0.length c2)); have d1 := blk_far HBH2.out (p := ⟨G, 0, none⟩) (by simp) (.int .u32 h); have d2 := blk_far d1 (p := ⟨G, 1, none⟩) (by simp) (.slice A2 l0.length c2); have h0 := (blk_cell d2 0).trans (rfl : _ = some (Value.int .u32 0)); have h1 := (blk_cell d2 1).trans (rfl : _ = some (Value.slice none 0 0)); have x0 := blk_frozen d2 0; have x1 := blk_frozen d2 1; have HR3 := Aside0.mk (Kd.R_set (Kd.R_set HR2.out HBG2.out HE.out 0 (.int .u32 h)) b1 HE.out 1 (.slice A2 l0.length c2)); have HBW3 := Aside0.mk (below_set (j := 1) (v := .slice A2 l0.length c2) (below_set (j := 0) (v := .int .u32 h) HBW2.out HGG.out) HGG.out); have HB3 := Aside0.mk b2; have HD3 := Aside0.mk d2; clear b1 b2 d1 d2)
      | (go_at_call 23; refine (calls_Calls_has.calls h A2 c2 l0 (k : Int) true _ (Kd.R_reads' HR3.out).2.2 (Kd.R_reads' HR3.out).2.1 HHAS.out).mono ?_; rintro e w4 ⟨rfl, hb4⟩; have HR4 := Aside0.mk (Kd.R_below HR3.out hb4); have HBW4 := Aside0.mk (below_step HBW3.out hb4); have HB4 := Aside0.mk (blk_below HB3.out hb4); have HD4 := Aside0.mk (blk_below HD3.out hb4); clear hb4 k0 k1 n0 n1 h0 h1 x0 x1 z0 z1; have n0 := (blk_cell HB4.out 0).trans (rfl : _ = some (Value.int .u32 h)); have n1 := (blk_cell HB4.out 1).trans (rfl : _ = some (Value.slice A2 l0.length c2)); have h0 := (blk_cell HD4.out 0).trans (rfl : _ = some (Value.int .u32 0)); have h1 := (blk_cell HD4.out 1).trans (rfl : _ = some (Value.slice none 0 0)); have x0 := blk_frozen HD4.out 0; have x1 := blk_frozen HD4.out 1; obtain ⟨g, c3, eA, hgb, hgl, cells, hgc⟩ := Kd.R_form HR4.out (by have := HK.out; omega); injection eA with eA1 eA2 eA3; subst eA1; subst eA3; obtain ⟨hc4, hf4⟩ := Kd.R_cell (0 : Int) HR4.out (k : Int) (by omega) (by have := HK.out; omega); rw [Int.toNat_natCast] at hc4 hf4; have hp := Kd.R_putg HR4.out (k : Int) (Go.bits .andNot .u32 (rdOf 0 l0 (k : Int)) bt); rw [Int.toNat_natCast] at hp; have HP := Aside0.mk hp.1; have HGB := Aside0.mk hgb; have hgG : G ≠ g := blk_ne HB4.out hgc (by decide); have hgH : G + 1 ≠ g := blk_ne HD4.out hgc (by decide); have v1 := blk_far HB4.out (p := ⟨g, k, none⟩) hgG (.int .u32 (Go.bits .andNot .u32 (rdOf 0 l0 (k : Int)) bt)); have v2 := blk_far HD4.out (p := ⟨g, k, none⟩) hgH (.int .u32 (Go.bits .andNot .u32 (rdOf 0 l0 (k : Int)) bt)); have V1 := Aside0.mk v1; have V2 := Aside0.mk v2; have o0 := (blk_cell v1 0).trans (rfl : _ = some (Value.int .u32 h)); have o1 := (blk_cell v1 1).trans (rfl : _ = some (Value.slice (some ⟨g, 0, none⟩) l0.length c2)); have o2 := (blk_cell v2 0).trans (rfl : _ = some (Value.int .u32 0)); have o3 := (blk_cell v2 1).trans (rfl : _ = some (Value.slice none 0 0)); have o4 := blk_frozen v2 0; have o5 := blk_frozen v2 1; clear hp v1 v2 hgb hgc hgl hgG hgH; have u1 := blk_put V1.out 0 (.int .u32 (Go.bits .andNot .u32 h bt)) (cs' := #[.int .u32 (Go.bits .andNot .u32 h bt), .slice (some ⟨g, 0, none⟩) l0.length c2]) rfl; have u2 := blk_far V2.out (p := ⟨G, 0, none⟩) (by simp) (.int .u32 (Go.bits .andNot .u32 h bt)); have U1 := Aside0.mk u1; have U2 := Aside0.mk u2; have s0 := (blk_cell u1 0).trans (rfl : _ = some (Value.int .u32 (Go.bits .andNot .u32 h bt))); have s1 := (blk_cell u1 1).trans (rfl : _ = some (Value.slice (some ⟨g, 0, none⟩) l0.length c2)); have s2 := (blk_cell u2 0).trans (rfl : _ = some (Value.int .u32 0)); have s3 := (blk_cell u2 1).trans (rfl : _ = some (Value.slice none 0 0)); have s4 := blk_frozen u2 0; have s5 := blk_frozen u2 1; have s6 := blk_frozen V1.out 0; clear u1 u2))
    have hg1 : w.heap.size ≤ G + 1 := Nat.le_succ_of_le HGG.out
    have f1 := blk_put V2.out 0 (.int .u32 h) (cs' := #[.int .u32 h, .slice none 0 0]) rfl
    have f2 := blk_put f1 1 (.slice (some ⟨g, 0, none⟩) l0.length c2) (cs' := #[.int .u32 h, .slice (some ⟨g, 0, none⟩) l0.length c2]) rfl
    have r5 := Kd.R_set (Kd.R_set HP.out V2.out HE.out 0 (.int .u32 h)) f1 HE.out 1 (.slice (some ⟨g, 0, none⟩) l0.length c2)
    have hB := below_set (j := 1) (v := (.slice (some ⟨g, 0, none⟩) l0.length c2)) (below_set (j := 0) (v := .int .u32 h) (below_set (j := k) (v := .int .u32 (Go.bits .andNot .u32 (rdOf 0 l0 (k : Int)) bt)) HBW4.out HGB.out) hg1) hg1
    generalize ((w4.setCell ⟨g, k, none⟩ (.int .u32 (Go.bits .andNot .u32 (rdOf 0 l0 (k : Int)) bt))).setCell ⟨G + 1, 0, none⟩ (.int .u32 h)).setCell ⟨G + 1, 1, none⟩ (.slice (some ⟨g, 0, none⟩) l0.length c2) = W5 at f2 r5 hB ⊢
    refine bodyPost_ret (results_cell_row rfl _ _ (G + 1) 27 #[.int .u32 h, .slice (some ⟨g, 0, none⟩) l0.length c2] (0, 0) _ rfl f2 Tryd.underlying27 rfl (by kernel_rfl)) rfl ?_
    exact ⟨some ⟨g, 0, none⟩, c2, rfl, r5, hB⟩
  | true =>
    go_enter Tryd.func14, Tryd.ntmps14
    go_upto_region 1 with (fail)
    obtain ⟨hB2, hB4, hbl⟩ := two_boxes w h A0 l0.length c0
    generalize hW : (w.alloc (.cells #[.int .u32 h, .slice A0 l0.length c0] 27)).alloc (.cells #[.int .u32 0, .slice none 0 0] 27) = W at hB2 hB4 hbl ⊢
    clear hW
    obtain ⟨G, hG⟩ : ∃ G, G = w.heap.size := ⟨_, rfl⟩
    have hG2 : w.heap.size + 1 = G + 1 := by rw [hG]
    rw [hG2] at hB4
    rw [← hG] at hB2
    have HGG := Aside0.mk (show w.heap.size ≤ G by rw [hG]; exact Nat.le_refl _)
    simp only [← hG, hG2]
    have HBG := Aside0.mk hB2
    have HBH := Aside0.mk hB4
    have HBW := Aside0.mk hbl
    have k0 := (blk_cell hB2 0).trans (rfl : _ = some (Value.int .u32 h))
    have k1 := (blk_cell hB2 1).trans (rfl : _ = some (Value.slice A0 l0.length c0))
    clear hG hG2 hB2 hB4 hbl
    go_wp2_with (first
      | (go_at_call 21; refine (calls_bit.calls fl 32 bt _ HBT.out).mono ?_; rintro e w1 ⟨rfl, hb1⟩; have HBW1 := Aside0.mk (below_step HBW.out hb1); have HBG1 := Aside0.mk (blk_below HBG.out hb1); have HBH1 := Aside0.mk (blk_below HBH.out hb1); clear hb1 k0 k1; have k0 := (blk_cell HBG1.out 0).trans (rfl : _ = some (Value.int .u32 h)); have k1 := (blk_cell HBG1.out 1).trans (rfl : _ = some (Value.slice A0 l0.length c0)))
      | (go_at_call 22; refine (own_calls h A0 c0 l0 _ (Kd.C_below HR0.out HBW1.out) HL.out).mono ?_; rintro e w2 ⟨A2, c2, rfl, hR2, hb2⟩; have HR2 := Aside0.mk (Kd.R_lower hR2 (below_size HBW1.out)); have HBW2 := Aside0.mk (below_step HBW1.out hb2); have HBG2 := Aside0.mk (blk_below HBG1.out hb2); have HBH2 := Aside0.mk (blk_below HBH1.out hb2); clear hR2 hb2 k0 k1; have k0 := (blk_cell HBG2.out 0).trans (rfl : _ = some (Value.int .u32 h)); have k1 := (blk_cell HBG2.out 1).trans (rfl : _ = some (Value.slice A0 l0.length c0)); have z0 := blk_frozen HBG2.out 0; have z1 := blk_frozen HBG2.out 1; have b1 := blk_put HBG2.out 0 (.int .u32 h) (cs' := #[.int .u32 h, .slice A0 l0.length c0]) rfl; have b2 := blk_put b1 1 (.slice A2 l0.length c2) (cs' := #[.int .u32 h, .slice A2 l0.length c2]) rfl; have n0 := (blk_cell b2 0).trans (rfl : _ = some (Value.int .u32 h)); have n1 := (blk_cell b2 1).trans (rfl : _ = some (Value.slice A2 l0.length c2)); have d1 := blk_far HBH2.out (p := ⟨G, 0, none⟩) (by simp) (.int .u32 h); have d2 := blk_far d1 (p := ⟨G, 1, none⟩) (by simp) (.slice A2 l0.length c2); have h0 := (blk_cell d2 0).trans (rfl : _ = some (Value.int .u32 0)); have h1 := (blk_cell d2 1).trans (rfl : _ = some (Value.slice none 0 0)); have x0 := blk_frozen d2 0; have x1 := blk_frozen d2 1; have HR3 := Aside0.mk (Kd.R_set (Kd.R_set HR2.out HBG2.out HE.out 0 (.int .u32 h)) b1 HE.out 1 (.slice A2 l0.length c2)); have HBW3 := Aside0.mk (below_set (j := 1) (v := .slice A2 l0.length c2) (below_set (j := 0) (v := .int .u32 h) HBW2.out HGG.out) HGG.out); have HB3 := Aside0.mk b2; have HD3 := Aside0.mk d2; clear b1 b2 d1 d2)
      | (go_at_call 23; refine (calls_Calls_has.calls h A2 c2 l0 (k : Int) true _ (Kd.R_reads' HR3.out).2.2 (Kd.R_reads' HR3.out).2.1 HHAS.out).mono ?_; rintro e w4 ⟨rfl, hb4⟩; have HR4 := Aside0.mk (Kd.R_below HR3.out hb4); have HBW4 := Aside0.mk (below_step HBW3.out hb4); have HB4 := Aside0.mk (blk_below HB3.out hb4); have HD4 := Aside0.mk (blk_below HD3.out hb4); clear hb4 k0 k1 n0 n1 h0 h1 x0 x1 z0 z1; have n0 := (blk_cell HB4.out 0).trans (rfl : _ = some (Value.int .u32 h)); have n1 := (blk_cell HB4.out 1).trans (rfl : _ = some (Value.slice A2 l0.length c2)); have h0 := (blk_cell HD4.out 0).trans (rfl : _ = some (Value.int .u32 0)); have h1 := (blk_cell HD4.out 1).trans (rfl : _ = some (Value.slice none 0 0)); have x0 := blk_frozen HD4.out 0; have x1 := blk_frozen HD4.out 1; obtain ⟨g, c3, eA, hgb, hgl, cells, hgc⟩ := Kd.R_form HR4.out (by have := HK.out; omega); injection eA with eA1 eA2 eA3; subst eA1; subst eA3; obtain ⟨hc4, hf4⟩ := Kd.R_cell (0 : Int) HR4.out (k : Int) (by omega) (by have := HK.out; omega); rw [Int.toNat_natCast] at hc4 hf4; have hp := Kd.R_putg HR4.out (k : Int) (Go.bits .andNot .u32 (rdOf 0 l0 (k : Int)) bt); rw [Int.toNat_natCast] at hp; have HP := Aside0.mk hp.1; have HGB := Aside0.mk hgb; have hgG : G ≠ g := blk_ne HB4.out hgc (by decide); have hgH : G + 1 ≠ g := blk_ne HD4.out hgc (by decide); have v1 := blk_far HB4.out (p := ⟨g, k, none⟩) hgG (.int .u32 (Go.bits .andNot .u32 (rdOf 0 l0 (k : Int)) bt)); have v2 := blk_far HD4.out (p := ⟨g, k, none⟩) hgH (.int .u32 (Go.bits .andNot .u32 (rdOf 0 l0 (k : Int)) bt)); have V1 := Aside0.mk v1; have V2 := Aside0.mk v2; have o0 := (blk_cell v1 0).trans (rfl : _ = some (Value.int .u32 h)); have o1 := (blk_cell v1 1).trans (rfl : _ = some (Value.slice (some ⟨g, 0, none⟩) l0.length c2)); have o2 := (blk_cell v2 0).trans (rfl : _ = some (Value.int .u32 0)); have o3 := (blk_cell v2 1).trans (rfl : _ = some (Value.slice none 0 0)); have o4 := blk_frozen v2 0; have o5 := blk_frozen v2 1; clear hp v1 v2 hgb hgc hgl hgG hgH; have u1 := blk_put V1.out 0 (.int .u32 (Go.bits .andNot .u32 h bt)) (cs' := #[.int .u32 (Go.bits .andNot .u32 h bt), .slice (some ⟨g, 0, none⟩) l0.length c2]) rfl; have u2 := blk_far V2.out (p := ⟨G, 0, none⟩) (by simp) (.int .u32 (Go.bits .andNot .u32 h bt)); have U1 := Aside0.mk u1; have U2 := Aside0.mk u2; have s0 := (blk_cell u1 0).trans (rfl : _ = some (Value.int .u32 (Go.bits .andNot .u32 h bt))); have s1 := (blk_cell u1 1).trans (rfl : _ = some (Value.slice (some ⟨g, 0, none⟩) l0.length c2)); have s2 := (blk_cell u2 0).trans (rfl : _ = some (Value.int .u32 0)); have s3 := (blk_cell u2 1).trans (rfl : _ = some (Value.slice none 0 0)); have s4 := blk_frozen u2 0; have s5 := blk_frozen u2 1; have s6 := blk_frozen V1.out 0; clear u1 u2))
    have hg1 : w.heap.size ≤ G + 1 := Nat.le_succ_of_le HGG.out
    have f1 := blk_put U2.out 0 (.int .u32 (Go.bits .andNot .u32 h bt)) (cs' := #[.int .u32 (Go.bits .andNot .u32 h bt), .slice none 0 0]) rfl
    have f2 := blk_put f1 1 (.slice (some ⟨g, 0, none⟩) l0.length c2) (cs' := #[.int .u32 (Go.bits .andNot .u32 h bt), .slice (some ⟨g, 0, none⟩) l0.length c2]) rfl
    have r5 := Kd.R_set (Kd.R_set (Kd.R_set HP.out V1.out HE.out 0 (.int .u32 (Go.bits .andNot .u32 h bt))) U2.out HE.out 0 (.int .u32 (Go.bits .andNot .u32 h bt))) f1 HE.out 1 (.slice (some ⟨g, 0, none⟩) l0.length c2)
    have hB := below_set (j := 1) (v := (.slice (some ⟨g, 0, none⟩) l0.length c2)) (below_set (j := 0) (v := .int .u32 (Go.bits .andNot .u32 h bt)) (below_set (j := 0) (v := .int .u32 (Go.bits .andNot .u32 h bt)) (below_set (j := k) (v := .int .u32 (Go.bits .andNot .u32 (rdOf 0 l0 (k : Int)) bt)) HBW4.out HGB.out) HGG.out) hg1) hg1
    generalize (((w4.setCell ⟨g, k, none⟩ (.int .u32 (Go.bits .andNot .u32 (rdOf 0 l0 (k : Int)) bt))).setCell ⟨G, 0, none⟩ (.int .u32 (Go.bits .andNot .u32 h bt))).setCell ⟨G + 1, 0, none⟩ (.int .u32 (Go.bits .andNot .u32 h bt))).setCell ⟨G + 1, 1, none⟩ (.slice (some ⟨g, 0, none⟩) l0.length c2) = W5 at f2 r5 hB ⊢
    refine bodyPost_ret (results_cell_row rfl _ _ (G + 1) 27 #[.int .u32 (Go.bits .andNot .u32 h bt), .slice (some ⟨g, 0, none⟩) l0.length c2] (0, 0) _ rfl f2 Tryd.underlying27 rfl (by kernel_rfl)) rfl ?_
    exact ⟨some ⟨g, 0, none⟩, c2, rfl, r5, hB⟩
end Go.Proofs.YthjmlmognbenoaaDoor.PAll
