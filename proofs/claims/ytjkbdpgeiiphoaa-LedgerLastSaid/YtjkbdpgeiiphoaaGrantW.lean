/- The walk of (Ledger).Grant where a permit may be granted, by hand (no statement stands here). -/
import Derived.Test.YtjkbdpgeiiphoaaFitW
namespace Go.Proofs.Ytjkbdpgeiiphoaa.PAll
open Go.RowKit Go.Proofs.YtjkbdpgeiiphoaaW.PrintWords Go.Proofs.YtjkbdpgeiiphoaaW.PrintLast Go.Proofs.YtjkbdpgeiiphoaaW.PrintMore
attribute [local go_sem] min_two max_two
set_option linter.unusedVariables false
set_option linter.unusedSimpArgs false

def GrP (b x : Int) (l0 : List S37) (p : S37) (n : Int) (l : List S37) : Prop := if b < x then n = 20 ∧ l = l0 else n = 0 ∧ l = l0 ++ [p]
def freeP (m cr : Int) (l : List S37) : Int := if l.length = 0 then 0 else mx (wrap64 (m - cr)) 0
theorem grant_end {W w : World} {G : Nat} (B m cr : Int) (sl : Value) (hH : W.heap[G + 1]? = some (.cells #[.int .i64 0, .int .i64 0, .int .i64 0, .slice none 0 0] 26 (0, 0))) (hb : Below w.heap.size w W) (hg : w.heap.size ≤ G + 1) :
    ((((W.setCell ⟨G + 1, 0, none⟩ (.int .i64 B)).setCell ⟨G + 1, 1, none⟩ (.int .i64 m)).setCell ⟨G + 1, 2, none⟩ (.int .i64 cr)).setCell ⟨G + 1, 3, none⟩ sl).heap[G + 1]? = some (.cells #[.int .i64 B, .int .i64 m, .int .i64 cr, sl] 26 (0, 0)) ∧ Below w.heap.size w ((((W.setCell ⟨G + 1, 0, none⟩ (.int .i64 B)).setCell ⟨G + 1, 1, none⟩ (.int .i64 m)).setCell ⟨G + 1, 2, none⟩ (.int .i64 cr)).setCell ⟨G + 1, 3, none⟩ sl) := by
  have b1 := blk_put hH 0 (.int .i64 B) (cs' := #[.int .i64 B, .int .i64 0, .int .i64 0, .slice none 0 0]) rfl
  have b2 := blk_put b1 1 (.int .i64 m) (cs' := #[.int .i64 B, .int .i64 m, .int .i64 0, .slice none 0 0]) rfl
  have b3 := blk_put b2 2 (.int .i64 cr) (cs' := #[.int .i64 B, .int .i64 m, .int .i64 cr, .slice none 0 0]) rfl
  have b4 := blk_put b3 3 sl (cs' := #[.int .i64 B, .int .i64 m, .int .i64 cr, sl]) rfl
  exact ⟨b4, below_set (below_set (below_set (below_set hb hg) hg) hg) hg⟩

set_option maxRecDepth 100000 in
set_option maxHeartbeats 4000000 in
theorem Grant_calls (k : Nat) (b m cr car peak : Int) (A0 : Option Addr) (c0 : Nat) (l0 : List S37) (w : World) (hr0 : Kd.C k37 w A0 l0.length l0) (hc0 : l0.length ≤ c0) (hl : l0.length ≤ 1000)
    (hkn : ledger_known.f car = some true) (hpw : ledger_power.f peak = some true) (hat : ledger_Ledger_at.f b m cr l0 car = some (-1)) (hsm : ledger_Ledger_Sum.f k b m cr l0 = some (sumP l0)) (hfr : ledger_Ledger_free.f b m cr l0 = some (freeP m cr l0)) (hcl : ledger_Permit_14.f l0 = some l0) :
    Calls Try.prog 6 #[.agg #[.int .i64 b, .int .i64 m, .int .i64 cr, .slice A0 l0.length c0], .int .i64 car, .int .i64 peak] w fun e w' => ∃ (A : Option Addr) (c : Nat) (l : List S37) (n : Int),
      e = .returned (.tuple #[.agg #[.int .i64 b, .int .i64 m, .int .i64 cr, .slice A l.length c], .int .i64 n])
      ∧ GrP b (wrap64 (wrap64 (sumP l0 + peak) + freeP m cr l0)) l0 ⟨car, peak⟩ n l ∧ Kd.C k37 w' A l.length l ∧ l.length ≤ c ∧ Below w.heap.size w w' := by
  have hu26 := Try.underlying26
  have hu37 := Try.underlying37
  have HR0 := Aside0.mk hr0
  have HC0 := Aside0.mk hc0
  have HL := Aside0.mk hl
  have HKN := Aside0.mk hkn
  have HPW := Aside0.mk hpw
  have HAT := Aside0.mk hat
  have HSM := Aside0.mk hsm
  have HFR := Aside0.mk hfr
  have HCL := Aside0.mk hcl
  generalize hF : freeP m cr l0 = F at HFR ⊢
  generalize hS : sumP l0 = S at HSM ⊢
  generalize hX1 : wrap64 (S + peak) = X1
  generalize hX2 : wrap64 (X1 + F) = X2
  have hX3 : IntKind.i64.wrap (S + peak) = X1 := (i64_w _).trans hX1
  have hX4 : IntKind.i64.wrap (X1 + F) = X2 := (i64_w _).trans hX2
  clear hr0 hc0 hl hkn hpw hat hsm hfr hcl hF hS
  go_enter Try.func6, Try.ntmps6
  go_upto_region 1 with (fail)
  have hB2 : ((w.alloc (.cells #[.int .i64 b, .int .i64 m, .int .i64 cr, .slice A0 l0.length c0] 26)).alloc (.cells #[.int .i64 0, .int .i64 0, .int .i64 0, .slice none 0 0] 26)).heap[w.heap.size]? = some (.cells #[.int .i64 b, .int .i64 m, .int .i64 cr, .slice A0 l0.length c0] 26 (0, 0)) := blk_alloc (blk_new w _) _
  have hB4 : ((w.alloc (.cells #[.int .i64 b, .int .i64 m, .int .i64 cr, .slice A0 l0.length c0] 26)).alloc (.cells #[.int .i64 0, .int .i64 0, .int .i64 0, .slice none 0 0] 26)).heap[w.heap.size + 1]? = some (.cells #[.int .i64 0, .int .i64 0, .int .i64 0, .slice none 0 0] 26 (0, 0)) := by
    have := blk_new (w.alloc (.cells #[.int .i64 b, .int .i64 m, .int .i64 cr, .slice A0 l0.length c0] 26)) (.cells #[.int .i64 0, .int .i64 0, .int .i64 0, .slice none 0 0] 26)
    rwa [World.size_alloc] at this
  have hbl : Below w.heap.size w ((w.alloc (.cells #[.int .i64 b, .int .i64 m, .int .i64 cr, .slice A0 l0.length c0] 26)).alloc (.cells #[.int .i64 0, .int .i64 0, .int .i64 0, .slice none 0 0] 26)) := below_alloc (below_alloc (Below.refl _ _) _) _
  generalize hW : (w.alloc (.cells #[.int .i64 b, .int .i64 m, .int .i64 cr, .slice A0 l0.length c0] 26)).alloc (.cells #[.int .i64 0, .int .i64 0, .int .i64 0, .slice none 0 0] 26) = W at hB2 hB4 hbl ⊢
  clear hW
  obtain ⟨G, hG⟩ : ∃ G, G = w.heap.size := ⟨_, rfl⟩
  have hG2 : w.heap.size + 1 = G + 1 := by rw [hG]
  rw [hG2] at hB4
  rw [← hG] at hB2
  have HG := Aside0.mk hG
  have e0 := (blk_cell hB2 0).trans (rfl : _ = some (Value.int .i64 b))
  have e1 := (blk_cell hB2 1).trans (rfl : _ = some (Value.int .i64 m))
  have e2 := (blk_cell hB2 2).trans (rfl : _ = some (Value.int .i64 cr))
  have e3 := (blk_cell hB2 3).trans (rfl : _ = some (Value.slice A0 l0.length c0))
  simp only [← hG, hG2]
  have HBG := Aside0.mk hB2
  have HBH := Aside0.mk hB4
  have HBW := Aside0.mk hbl
  clear hG hG2 hB2 hB4 hbl
  by_cases hful : b < X2
  · have hd : decide (b < X2) = true := decide_eq_true hful
    have HFU := Aside0.mk hful
    clear hful
    go_wp2_with (first
      | (go_at_call 10; refine (ledger_known.calls car true _ HKN.out).mono ?_; rintro e w' ⟨rfl, ⟨nd, rfl⟩⟩)
      | (go_at_call 11; refine (ledger_power.calls peak true _ HPW.out).mono ?_; rintro e w' ⟨rfl, ⟨nd2, rfl⟩⟩)
      | (go_at_call 12; refine (ledger_Ledger_at.calls b m cr A0 c0 l0 car (-1) _ (Kd.C_below HR0.out (by repeat (first | exact HBW.out | apply pw_below_drewN | apply below_drew1))) HC0.out HAT.out).mono ?_; rintro e w2 ⟨rfl, hb2⟩; have HBW2 := Aside0.mk (below_step (by repeat (first | exact HBW.out | apply pw_below_drewN | apply below_drew1)) hb2); have HBG2 := Aside0.mk (blk_below (blk_drewN HBG.out _) hb2); have HBH2 := Aside0.mk (blk_below (blk_drewN HBH.out _) hb2); clear hb2))
    clear e0 e1 e2 e3
    have g0 : ∀ W : World, Below w2.heap.size w2 W → W.cell? ⟨G, 0, none⟩ = some (.int .i64 b) := fun W hb => (blk_cell (blk_below HBG2.out hb) 0).trans rfl
    have g1 : ∀ W : World, Below w2.heap.size w2 W → W.cell? ⟨G, 1, none⟩ = some (.int .i64 m) := fun W hb => (blk_cell (blk_below HBG2.out hb) 1).trans rfl
    have g2 : ∀ W : World, Below w2.heap.size w2 W → W.cell? ⟨G, 2, none⟩ = some (.int .i64 cr) := fun W hb => (blk_cell (blk_below HBG2.out hb) 2).trans rfl
    have g3 : ∀ W : World, Below w2.heap.size w2 W → W.cell? ⟨G, 3, none⟩ = some (.slice A0 l0.length c0) := fun W hb => (blk_cell (blk_below HBG2.out hb) 3).trans rfl
    go_region_held (fun w' => Below w2.heap.size w2 w') (first | assumption | exact below_drew (Below.refl _ _) | exact below_step (by assumption) hb5 | exact below_step (by assumption) hb6) (first
      | (go_at_call 9; refine (ledger_Ledger_Sum.calls k b m cr A0 c0 l0 S _ (Kd.C_below HR0.out (below_step HBW2.out (by assumption))) HC0.out HSM.out).mono ?_; rintro e w5 ⟨rfl, hb5⟩)
      | (go_at_call 13; refine (ledger_Ledger_free.calls b m cr A0 c0 l0 F _ (Kd.C_below HR0.out (below_step HBW2.out (by assumption))) HC0.out HFR.out).mono ?_; rintro e w6 ⟨rfl, hb6⟩))
    have HW5 := Aside0.mk (show Below w2.heap.size w2 w6 by assumption)
    have k0 := g0 _ HW5.out
    have k1 := g1 _ HW5.out
    have k2 := g2 _ HW5.out
    have k3 := g3 _ HW5.out
    have HCH2 := Aside0.mk (blk_below HBH2.out HW5.out)
    have h0 := (blk_cell HCH2.out 0).trans (rfl : _ = some (Value.int .i64 0))
    have h1 := (blk_cell HCH2.out 1).trans (rfl : _ = some (Value.int .i64 0))
    have h2 := (blk_cell HCH2.out 2).trans (rfl : _ = some (Value.int .i64 0))
    have h3 := (blk_cell HCH2.out 3).trans (rfl : _ = some (Value.slice none 0 0))
    have z0 := blk_frozen HCH2.out 0
    have z1 := blk_frozen HCH2.out 1
    have z2 := blk_frozen HCH2.out 2
    have z3 := blk_frozen HCH2.out 3
    clear g0 g1 g2 g3
    go_wp2
    obtain ⟨E5, B5⟩ := grant_end b m cr (.slice A0 l0.length c0) HCH2.out (below_step HBW2.out HW5.out) (by rw [HG.out]; exact Nat.le_succ _)
    generalize (((w6.setCell ⟨G + 1, 0, none⟩ (.int .i64 b)).setCell ⟨G + 1, 1, none⟩ (.int .i64 m)).setCell ⟨G + 1, 2, none⟩ (.int .i64 cr)).setCell ⟨G + 1, 3, none⟩ (.slice A0 l0.length c0) = W5 at E5 B5 ⊢
    refine bodyPost_ret (results_ct rfl _ _ (G + 1) 26 #[.int .i64 b, .int .i64 m, .int .i64 cr, .slice A0 l0.length c0] (0, 0) _ rfl E5 Try.underlying26 rfl (by kernel_rfl)) rfl ?_
    exact ⟨A0, c0, l0, 20, rfl, (by unfold GrP; rw [if_pos HFU.out]; exact ⟨rfl, rfl⟩), Kd.C_below HR0.out B5, HC0.out, B5⟩
  · have hd : decide (b < X2) = false := decide_eq_false hful
    have HFU := Aside0.mk hful
    clear hful
    go_wp2_with (first
      | (go_at_call 10; refine (ledger_known.calls car true _ HKN.out).mono ?_; rintro e w' ⟨rfl, ⟨nd, rfl⟩⟩)
      | (go_at_call 11; refine (ledger_power.calls peak true _ HPW.out).mono ?_; rintro e w' ⟨rfl, ⟨nd2, rfl⟩⟩)
      | (go_at_call 12; refine (ledger_Ledger_at.calls b m cr A0 c0 l0 car (-1) _ (Kd.C_below HR0.out (by repeat (first | exact HBW.out | apply pw_below_drewN | apply below_drew1))) HC0.out HAT.out).mono ?_; rintro e w2 ⟨rfl, hb2⟩; have HBW2 := Aside0.mk (below_step (by repeat (first | exact HBW.out | apply pw_below_drewN | apply below_drew1)) hb2); have HBG2 := Aside0.mk (blk_below (blk_drewN HBG.out _) hb2); have HBH2 := Aside0.mk (blk_below (blk_drewN HBH.out _) hb2); clear hb2))
    clear e0 e1 e2 e3
    have g0 : ∀ W : World, Below w2.heap.size w2 W → W.cell? ⟨G, 0, none⟩ = some (.int .i64 b) := fun W hb => (blk_cell (blk_below HBG2.out hb) 0).trans rfl
    have g1 : ∀ W : World, Below w2.heap.size w2 W → W.cell? ⟨G, 1, none⟩ = some (.int .i64 m) := fun W hb => (blk_cell (blk_below HBG2.out hb) 1).trans rfl
    have g2 : ∀ W : World, Below w2.heap.size w2 W → W.cell? ⟨G, 2, none⟩ = some (.int .i64 cr) := fun W hb => (blk_cell (blk_below HBG2.out hb) 2).trans rfl
    have g3 : ∀ W : World, Below w2.heap.size w2 W → W.cell? ⟨G, 3, none⟩ = some (.slice A0 l0.length c0) := fun W hb => (blk_cell (blk_below HBG2.out hb) 3).trans rfl
    go_region_held (fun w' => Below w2.heap.size w2 w') (first | assumption | exact below_drew (Below.refl _ _) | exact below_step (by assumption) hb5 | exact below_step (by assumption) hb6) (first
      | (go_at_call 9; refine (ledger_Ledger_Sum.calls k b m cr A0 c0 l0 S _ (Kd.C_below HR0.out (below_step HBW2.out (by assumption))) HC0.out HSM.out).mono ?_; rintro e w5 ⟨rfl, hb5⟩)
      | (go_at_call 13; refine (ledger_Ledger_free.calls b m cr A0 c0 l0 F _ (Kd.C_below HR0.out (below_step HBW2.out (by assumption))) HC0.out HFR.out).mono ?_; rintro e w6 ⟨rfl, hb6⟩))
    have HW5 := Aside0.mk (show Below w2.heap.size w2 w6 by assumption)
    have k3 := g3 _ HW5.out
    have HBG6 := Aside0.mk (blk_below HBG2.out HW5.out)
    have HBH6 := Aside0.mk (blk_below HBH2.out HW5.out)
    have HBW6 := Aside0.mk (below_step HBW2.out HW5.out)
    clear g0 g1 g2 g3
    have HE := Aside0.mk (show ∀ q, q ∈ 37 :: k37.E → q ≠ 26 by intro q hq; have e : k37.E = [] := rfl; rw [e] at hq; simp at hq; omega)
    go_wp2_with (first
      | (go_at_call 14; refine (ledger_Permit_14.calls A0 c0 l0 l0 _ (Kd.C_below HR0.out HBW6.out) HC0.out HCL.out).mono ?_; rintro e w7 ⟨v7, rfl, ho7, hb7⟩; obtain ⟨A7, c7, rfl⟩ := Kd.R_slice ho7; have HO7 := Aside0.mk (Kd.R_lower ho7 (below_size HBW6.out)); have HBW7 := Aside0.mk (below_step HBW6.out hb7); have HBG7 := Aside0.mk (blk_below HBG6.out hb7); have HBH7 := Aside0.mk (blk_below HBH6.out hb7); clear ho7 hb7)
      | (at_builtin; refine Kd.R_append k37 (w0 := w) w.heap.size rfl (.tmp 38) (.tmp 42) 24 37 (.agg #[(.int .i64 0), (.int .i64 0)]) 16 rfl Try.underlying24 info37 rfl (by decide) (by omega) (.slice A7 l0.length c7) l0 (⟨car, peak⟩ : S37) [.int .i64 car, .int .i64 peak] (fun _ => True) (fun _ => False) rfl rfl ?aP (fun _ hk => hk.elim) (fun _ _ => trivial) ?aO ?aB ?aS ?aL ?_; (case aP => exact k37_mkM _ _ _ (⟨car, peak⟩ : S37)); (case aO => exact HO7.out); (case aB => exact HBW7.out); (case aS => exact below_size HBW7.out); (case aL => have := HL.out; omega); intro v9 w9 ho hb hg hat; obtain ⟨A9, c9, rfl⟩ := Kd.R_slice ho; obtain ⟨n9, hn9⟩ : ∃ n, n = (l0 ++ [(⟨car, peak⟩ : S37)]).length := ⟨_, rfl⟩; rw [← hn9] at ho ⊢; have HO9 := Aside0.mk ho; have HN9 := Aside0.mk hn9; have HB9 := Aside0.mk hb; have HBG9 := Aside0.mk (blk_grown HBG7.out hg (Kd.R_ne HO7.out HBG7.out (by decide))); have HBH9 := Aside0.mk (blk_grown HBH7.out hg (Kd.R_ne HO7.out HBH7.out (by decide))); clear ho hb hg hat hn9; have k9 := (blk_cell HBG9.out 3).trans (rfl : _ = some (Value.slice A0 l0.length c0)); have z9 := blk_frozen HBG9.out 3; have hG0 := blk_put HBG9.out 3 (.slice A9 n9 c9) (cs' := #[.int .i64 b, .int .i64 m, .int .i64 cr, .slice A9 n9 c9]) rfl; have hH0 := blk_far HBH9.out (p := ⟨G, 3, none⟩) (by simp) (.slice A9 n9 c9); have hR0 := Kd.R_set HO9.out HBG9.out HE.out 3 (.slice A9 n9 c9); have hB0 := below_set (j := 3) (v := .slice A9 n9 c9) HB9.out (show w.heap.size ≤ G by rw [HG.out]; exact Nat.le_refl _); have k0 := (blk_cell hG0 0).trans (rfl : _ = some (Value.int .i64 b)); have k1 := (blk_cell hG0 1).trans (rfl : _ = some (Value.int .i64 m)); have k2 := (blk_cell hG0 2).trans (rfl : _ = some (Value.int .i64 cr)); have k4 := (blk_cell hG0 3).trans (rfl : _ = some (Value.slice A9 n9 c9)); have h0 := (blk_cell hH0 0).trans (rfl : _ = some (Value.int .i64 0)); have h1 := (blk_cell hH0 1).trans (rfl : _ = some (Value.int .i64 0)); have h2 := (blk_cell hH0 2).trans (rfl : _ = some (Value.int .i64 0)); have h3 := (blk_cell hH0 3).trans (rfl : _ = some (Value.slice none 0 0)); have z0 := blk_frozen hH0 0; have z1 := blk_frozen hH0 1; have z2 := blk_frozen hH0 2; have z3 := blk_frozen hH0 3; have HH0 := Aside0.mk hH0; have HR6 := Aside0.mk hR0; have HB6 := Aside0.mk hB0; clear hH0 hG0 hR0 hB0))
    obtain ⟨E5, B5⟩ := grant_end b m cr (.slice A9 n9 c9) HH0.out HB6.out (by rw [HG.out]; exact Nat.le_succ _)
    have hR7 := Kd.R_set (Kd.R_set (Kd.R_set (Kd.R_set HR6.out HH0.out HE.out 0 (.int .i64 b)) (blk_set HH0.out 0 _) HE.out 1 (.int .i64 m)) (blk_set (blk_set HH0.out 0 _) 1 _) HE.out 2 (.int .i64 cr)) (blk_set (blk_set (blk_set HH0.out 0 _) 1 _) 2 _) HE.out 3 (.slice A9 n9 c9)
    generalize ((((w9.setCell ⟨G, 3, none⟩ (.slice A9 n9 c9)).setCell ⟨G + 1, 0, none⟩ (.int .i64 b)).setCell ⟨G + 1, 1, none⟩ (.int .i64 m)).setCell ⟨G + 1, 2, none⟩ (.int .i64 cr)).setCell ⟨G + 1, 3, none⟩ (.slice A9 n9 c9) = W5 at E5 B5 hR7 ⊢
    refine bodyPost_ret (results_ct rfl _ _ (G + 1) 26 #[.int .i64 b, .int .i64 m, .int .i64 cr, .slice A9 n9 c9] (0, 0) _ rfl E5 Try.underlying26 rfl (by kernel_rfl)) rfl ?_
    have hn := HN9.out
    subst hn
    exact ⟨A9, c9, l0 ++ [⟨car, peak⟩], 0, rfl, (by unfold GrP; rw [if_neg (by have := HFU.out; omega)]; exact ⟨rfl, rfl⟩), (Kd.R_reads' hR7).2.2, (Kd.R_reads' hR7).2.1, B5⟩
end Go.Proofs.Ytjkbdpgeiiphoaa.PAll
