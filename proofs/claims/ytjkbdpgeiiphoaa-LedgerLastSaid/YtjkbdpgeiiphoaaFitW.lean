/- The walk of (Ledger).Fit, by hand (no statement stands here). -/
import Derived.Test.YtjkbdpgeiiphoaaPAllx12
import Derived.Deep.RegionHeld
import Derived.WalkMore
namespace Go.Proofs.Ytjkbdpgeiiphoaa.PAll
open Go.RowKit Go.Proofs.YtjkbdpgeiiphoaaW.PrintWords Go.Proofs.YtjkbdpgeiiphoaaW.PrintLast Go.Proofs.YtjkbdpgeiiphoaaW.PrintMore
attribute [local go_sem] min_two max_two
set_option linter.unusedVariables false
set_option linter.unusedSimpArgs false

theorem fit_i3 : (Try.prog.info? 3).map (fun i => (i.zero, i.size, i.bytes)) = some (some (.int .i64 0), 1, 8) := by kernel_rfl
theorem fit_i37 : ∃ i, Try.prog.info? 37 = some i := by obtain ⟨i, h, _⟩ := info_parts info37; exact ⟨i, h⟩
def sumP : List S37 → Int
  | [] => 0
  | p :: ps => p.f1 + sumP ps
def fitn (l : List S37) (b : Int) : Nat → Nat
  | 0 => 0
  | n + 1 => if sumP (l.take (n + 1)) ≤ b then n + 1 else fitn l b n
def goneP (l : List S37) (n : Nat) : List Int := ((l.drop n).map S37.f0).reverse
def clampB (a : Int) : Int := if 1048576 < (if a < 0 then 0 else a) then 1048576 else (if a < 0 then 0 else a)
theorem goneP_len (l : List S37) (n : Nat) : (goneP l n).length = l.length - n := by simp [goneP]
theorem goneP_step (l : List S37) (n : Nat) (h : n < l.length) : goneP l n = goneP l (n + 1) ++ [(rd_T37 l (n : Int)).f0] := by
  unfold goneP
  rw [List.drop_eq_getElem_cons h, List.map_cons, List.reverse_cons, rd_T37_nat l n h]
theorem max_is {x y m : Int} (h : (if x < y then y else x) = m) : Builtin.max2 (.int .i64 x) (.int .i64 y) = pure (.int .i64 m) := by rw [max2_int, h]
theorem min_is {x y m : Int} (h : (if y < x then y else x) = m) : Builtin.min2 (.int .i64 x) (.int .i64 y) = pure (.int .i64 m) := by rw [min2_int, h]

theorem fit_end {W w : World} {G : Nat} (B m cr : Int) (sl : Value) {Ag : Option Addr} {cg : Nat} {l0 : List S37} {A6 : Option Addr} {c6 : Nat} {gl : List Int} (hH : W.heap[G + 1]? = some (.cells #[.int .i64 0, .int .i64 0, .int .i64 0, .slice none 0 0] 26 (0, 0)))
    (hR : Kd.R k37 37 W w.heap.size (fun _ => True) (.slice Ag l0.length cg) l0) (hG : Kd.R (Kd.int .i64) 3 W w.heap.size (fun _ => True) (.slice A6 gl.length c6) gl) (hE : ∀ q, q ∈ 37 :: k37.E → q ≠ 26) (hb : Below w.heap.size w W) (hg : w.heap.size ≤ G + 1) :
    ((((W.setCell ⟨G + 1, 0, none⟩ (.int .i64 B)).setCell ⟨G + 1, 1, none⟩ (.int .i64 m)).setCell ⟨G + 1, 2, none⟩ (.int .i64 cr)).setCell ⟨G + 1, 3, none⟩ sl).heap[G + 1]? = some (.cells #[.int .i64 B, .int .i64 m, .int .i64 cr, sl] 26 (0, 0)) ∧ Kd.C k37 ((((W.setCell ⟨G + 1, 0, none⟩ (.int .i64 B)).setCell ⟨G + 1, 1, none⟩ (.int .i64 m)).setCell ⟨G + 1, 2, none⟩ (.int .i64 cr)).setCell ⟨G + 1, 3, none⟩ sl) Ag l0.length l0 ∧ l0.length ≤ cg ∧ Kd.C (Kd.int .i64) ((((W.setCell ⟨G + 1, 0, none⟩ (.int .i64 B)).setCell ⟨G + 1, 1, none⟩ (.int .i64 m)).setCell ⟨G + 1, 2, none⟩ (.int .i64 cr)).setCell ⟨G + 1, 3, none⟩ sl) A6 gl.length gl ∧ gl.length ≤ c6 ∧ Below w.heap.size w ((((W.setCell ⟨G + 1, 0, none⟩ (.int .i64 B)).setCell ⟨G + 1, 1, none⟩ (.int .i64 m)).setCell ⟨G + 1, 2, none⟩ (.int .i64 cr)).setCell ⟨G + 1, 3, none⟩ sl) := by
  have hE3 : ∀ q, q ∈ 3 :: (Kd.int IntKind.i64).E → q ≠ 26 := by intro q hq; have e : (Kd.int IntKind.i64).E = [] := rfl; rw [e] at hq; simp at hq; omega
  have b1 := blk_put hH 0 (.int .i64 B) (cs' := #[.int .i64 B, .int .i64 0, .int .i64 0, .slice none 0 0]) rfl
  have b2 := blk_put b1 1 (.int .i64 m) (cs' := #[.int .i64 B, .int .i64 m, .int .i64 0, .slice none 0 0]) rfl
  have b3 := blk_put b2 2 (.int .i64 cr) (cs' := #[.int .i64 B, .int .i64 m, .int .i64 cr, .slice none 0 0]) rfl
  have b4 := blk_put b3 3 sl (cs' := #[.int .i64 B, .int .i64 m, .int .i64 cr, sl]) rfl
  have r1 := Kd.R_set hR hH hE 0 (.int .i64 B)
  have r2 := Kd.R_set r1 b1 hE 1 (.int .i64 m)
  have r3 := Kd.R_set r2 b2 hE 2 (.int .i64 cr)
  have r4 := Kd.R_set r3 b3 hE 3 sl
  have s1 := Kd.R_set hG hH hE3 0 (.int .i64 B)
  have s2 := Kd.R_set s1 b1 hE3 1 (.int .i64 m)
  have s3 := Kd.R_set s2 b2 hE3 2 (.int .i64 cr)
  have s4 := Kd.R_set s3 b3 hE3 3 sl
  exact ⟨b4, (Kd.R_reads' r4).2.2, (Kd.R_reads' r4).2.1, (Kd.R_reads' s4).2.2, (Kd.R_reads' s4).2.1, below_set (below_set (below_set (below_set hb hg) hg) hg) hg⟩

set_option maxRecDepth 100000 in
set_option maxHeartbeats 4000000 in
theorem Fit_calls (k : Nat) (b m cr a1 : Int) (A0 : Option Addr) (c0 : Nat) (l0 : List S37) (w : World) (hr0 : Kd.C k37 w A0 l0.length l0) (hc0 : l0.length ≤ c0) (hl : l0.length ≤ 1000)
    (hcl : ledger_Permit_14.f l0 = some l0) (hk : ∀ b : Int, ∀ n ≤ l0.length, ledger_Ledger_Sum.f k b m cr (l0.take n) = some (sumP (l0.take n))) :
    Calls Try.prog 8 #[.agg #[.int .i64 b, .int .i64 m, .int .i64 cr, .slice A0 l0.length c0], .int .i64 a1] w fun e w' => ∃ (A : Option Addr) (c : Nat) (A2 : Option Addr) (c2 : Nat),
      e = .returned (.tuple #[.agg #[.int .i64 (clampB a1), .int .i64 m, .int .i64 cr, .slice A (fitn l0 (clampB a1) l0.length) c], .slice A2 (goneP l0 (fitn l0 (clampB a1) l0.length)).length c2])
      ∧ Kd.C k37 w' A (l0.take (fitn l0 (clampB a1) l0.length)).length (l0.take (fitn l0 (clampB a1) l0.length)) ∧ fitn l0 (clampB a1) l0.length ≤ c
      ∧ Kd.C (Kd.int .i64) w' A2 (goneP l0 (fitn l0 (clampB a1) l0.length)).length (goneP l0 (fitn l0 (clampB a1) l0.length)) ∧ (goneP l0 (fitn l0 (clampB a1) l0.length)).length ≤ c2 ∧ Below w.heap.size w w' := by
  have hu26 := Try.underlying26
  have hu37 := Try.underlying37
  have hmx := max_is (x := a1) (y := 0) rfl
  have hmn : Builtin.min2 (.int .i64 (if a1 < 0 then 0 else a1)) (.int .i64 1048576) = pure (.int .i64 (clampB a1)) := min_is rfl
  generalize (if a1 < 0 then (0 : Int) else a1) = x1 at hmx hmn
  generalize clampB a1 = B at hmn ⊢
  have HR0 := Aside0.mk hr0
  have HC0 := Aside0.mk hc0
  have HL := Aside0.mk hl
  have HCL := Aside0.mk hcl
  have HK := Aside0.mk hk
  clear hr0 hc0 hl hcl hk
  go_enter Try.func8, Try.ntmps8
  go_wp2
  have hB2 : ((w.alloc (.cells #[.int .i64 b, .int .i64 m, .int .i64 cr, .slice A0 l0.length c0] 26)).alloc (.cells #[.int .i64 0, .int .i64 0, .int .i64 0, .slice none 0 0] 26)).heap[w.heap.size]? = some (.cells #[.int .i64 b, .int .i64 m, .int .i64 cr, .slice A0 l0.length c0] 26 (0, 0)) := blk_alloc (blk_new w _) _
  have hB4 : ((w.alloc (.cells #[.int .i64 b, .int .i64 m, .int .i64 cr, .slice A0 l0.length c0] 26)).alloc (.cells #[.int .i64 0, .int .i64 0, .int .i64 0, .slice none 0 0] 26)).heap[w.heap.size + 1]? = some (.cells #[.int .i64 0, .int .i64 0, .int .i64 0, .slice none 0 0] 26 (0, 0)) := by
    have := blk_new (w.alloc (.cells #[.int .i64 b, .int .i64 m, .int .i64 cr, .slice A0 l0.length c0] 26)) (.cells #[.int .i64 0, .int .i64 0, .int .i64 0, .slice none 0 0] 26)
    rwa [World.size_alloc] at this
  have hbl : Below w.heap.size w ((w.alloc (.cells #[.int .i64 b, .int .i64 m, .int .i64 cr, .slice A0 l0.length c0] 26)).alloc (.cells #[.int .i64 0, .int .i64 0, .int .i64 0, .slice none 0 0] 26)) := below_alloc (below_alloc (Below.refl _ _) _) _
  generalize hW : (w.alloc (.cells #[.int .i64 b, .int .i64 m, .int .i64 cr, .slice A0 l0.length c0] 26)).alloc (.cells #[.int .i64 0, .int .i64 0, .int .i64 0, .slice none 0 0] 26) = W at hB2 hB4 hbl ⊢
  clear hW
  obtain ⟨G, hG⟩ : ∃ G, G = w.heap.size := ⟨_, rfl⟩
  have hG2 : w.heap.size + 1 = G + 1 := by rw [hG]
  rw [hG2] at hB4
  rw [← hG] at hB2
  have HG := Aside0.mk hG
  have e0 := (blk_cell hB2 0).trans (rfl : _ = some (Value.int .i64 b))
  have f0 := blk_frozen hB2 0
  simp only [← hG, hG2]
  have hB3 := blk_put hB2 0 (.int .i64 B) (cs' := #[.int .i64 B, .int .i64 m, .int .i64 cr, .slice A0 l0.length c0]) rfl
  have hB5 := blk_far hB4 (p := ⟨G, 0, none⟩) (by simp) (.int .i64 B)
  have hbl2 : Below w.heap.size w (W.setCell ⟨G, 0, none⟩ (.int .i64 B)) := below_set hbl (by omega)
  have e3 := (blk_cell hB3 3).trans (rfl : _ = some (Value.slice A0 l0.length c0))
  have f3 := blk_frozen hB3 3
  have HB2 := Aside0.mk hB3
  have HB4 := Aside0.mk hB5
  have HBL := Aside0.mk hbl2
  clear hG hG2 hB2 hB3 hB4 hB5 hbl hbl2
  go_step3
  go_wp2_with (first | (go_at_call 14; refine (ledger_Permit_14.calls A0 c0 l0 l0 _ (Kd.C_below HR0.out HBL.out) HC0.out HCL.out).mono ?_; rintro e w2 ⟨v2, rfl, ho2, hb2⟩; obtain ⟨Ag, cg, rfl⟩ := Kd.R_slice ho2; have HO2 := Aside0.mk ho2; have HBL2 := Aside0.mk (below_step HBL.out hb2); have HB22 := Aside0.mk (blk_below HB2.out hb2); have HB42 := Aside0.mk (blk_below HB4.out hb2); clear ho2 hb2; have e32 := (blk_cell HB22.out 3).trans (rfl : _ = some (Value.slice A0 l0.length c0)); have f32 := blk_frozen HB22.out 3))
  go_step3
  go_wp2
  clear e0 f0 e3 f3 e32 f32 hmx hmn
  have hE : ∀ q, q ∈ 37 :: k37.E → q ≠ 26 := by intro q hq; have e : k37.E = [] := rfl; rw [e] at hq; simp at hq; omega
  have hE3 : ∀ q, q ∈ 37 :: k37.E → q ≠ 3 := by intro q hq; have e : k37.E = [] := rfl; rw [e] at hq; simp at hq; omega
  have hR0 := Kd.R_set HO2.out HB22.out hE 3 (.slice Ag l0.length cg)
  have hG0 := blk_put HB22.out 3 (.slice Ag l0.length cg) (cs' := #[.int .i64 B, .int .i64 m, .int .i64 cr, .slice Ag l0.length cg]) rfl
  have hH0 := blk_far HB42.out (p := ⟨G, 3, none⟩) (by simp) (.slice Ag l0.length cg)
  have hL0 : Below w.heap.size w (w2.setCell ⟨G, 3, none⟩ (.slice Ag l0.length cg)) := below_set HBL2.out (by rw [HG.out]; exact Nat.le_refl _)
  have hR1 := Kd.R_lower (base' := w.heap.size) hR0 (by have := below_size HBL.out; simpa using this)
  have hR2 : Kd.R k37 37 (w2.setCell ⟨G, 3, none⟩ (.slice Ag l0.length cg)) w.heap.size (fun _ => True) (.slice Ag l0.length cg) l0 := Kd.R_mono hR1 (fun _ _ => trivial)
  have HR2 := Aside0.mk hR2
  have HG0 := Aside0.mk hG0
  have HH0 := Aside0.mk hH0
  have HL0 := Aside0.mk hL0
  have HE3 := Aside0.mk hE3
  have HE := Aside0.mk hE
  clear hR0 hR1 hR2 hG0 hH0 hL0 hE hE3
  go_loopg [6] l0.length (fun g v6 w' => Aside0 (g ≤ l0.length) ∧ Aside0 (fitn l0 B l0.length = fitn l0 B g) ∧ Aside0 (Kd.R (Kd.int .i64) 3 w' w.heap.size (fun _ => True) v6 (goneP l0 g)) ∧ Aside0 (w'.heap[G]? = some (.cells #[.int .i64 B, .int .i64 m, .int .i64 cr, .slice Ag g cg] 26 (0, 0))) ∧ Aside0 (w'.heap[G + 1]? = some (.cells #[.int .i64 0, .int .i64 0, .int .i64 0, .slice none 0 0] 26 (0, 0))) ∧ Aside0 (Kd.R k37 37 w' w.heap.size (fun _ => True) (.slice Ag l0.length cg) l0) ∧ Aside0 (Below w.heap.size w w'))
  case atStart => exact ⟨⟨Nat.le_refl _⟩, ⟨rfl⟩, ⟨by rw [show goneP l0 l0.length = [] by simp [goneP]]; exact Kd.R_nil _ _ _ _ _⟩, HG0, HH0, HR2, HL0⟩
  case round =>
    clear HR2 HG0 HH0 HL0 HO2 HBL2 HB22 HB42 HB2 HB4 HBL
    obtain ⟨HN, HF, HGO, HCG, HCH, HRL, HB⟩ := hrel
    obtain ⟨A6, c6, rfl⟩ := Kd.R_slice HGO.out
    cases gk with
    | zero =>
      have e3 := (blk_cell HCG.out 3).trans (rfl : _ = some (Value.slice Ag 0 cg))
      go_wp2
      go_quiet (fail)
      have HCG2 := Aside0.mk (blk_drewN HCG.out nq)
      have HCH2 := Aside0.mk (blk_drewN HCH.out nq)
      have k0 := (blk_cell HCG2.out 0).trans (rfl : _ = some (Value.int .i64 B))
      have k1 := (blk_cell HCG2.out 1).trans (rfl : _ = some (Value.int .i64 m))
      have k2 := (blk_cell HCG2.out 2).trans (rfl : _ = some (Value.int .i64 cr))
      have k3 := (blk_cell HCG2.out 3).trans (rfl : _ = some (Value.slice Ag 0 cg))
      have h0 := (blk_cell HCH2.out 0).trans (rfl : _ = some (Value.int .i64 0))
      have h1 := (blk_cell HCH2.out 1).trans (rfl : _ = some (Value.int .i64 0))
      have h2 := (blk_cell HCH2.out 2).trans (rfl : _ = some (Value.int .i64 0))
      have h3 := (blk_cell HCH2.out 3).trans (rfl : _ = some (Value.slice none 0 0))
      have z0 := blk_frozen HCH2.out 0
      have z1 := blk_frozen HCH2.out 1
      have z2 := blk_frozen HCH2.out 2
      have z3 := blk_frozen HCH2.out 3
      clear e3
      go_wp2
      simp only [Exit.noGoto_ret]
      obtain ⟨E5, C5, L5, D5, M5, B5⟩ := fit_end B m cr (.slice Ag 0 cg) HCH2.out (Kd.R_drewN HRL.out nq) (Kd.R_drewN HGO.out nq) HE.out (pw_below_drewN HB.out nq) (by rw [HG.out]; exact Nat.le_succ _)
      generalize ((((wr.drewN nq).setCell ⟨G + 1, 0, none⟩ (.int .i64 B)).setCell ⟨G + 1, 1, none⟩ (.int .i64 m)).setCell ⟨G + 1, 2, none⟩ (.int .i64 cr)).setCell ⟨G + 1, 3, none⟩ (.slice Ag 0 cg) = W5 at E5 C5 D5 B5 ⊢
      refine bodyPost_ret (results_ct rfl _ _ (G + 1) 26 #[.int .i64 B, .int .i64 m, .int .i64 cr, .slice Ag 0 cg] (0, 0) _ rfl E5 Try.underlying26 rfl (by kernel_rfl)) rfl ?_
      have hz : fitn l0 B l0.length = 0 := HF.out
      rw [hz]
      have hC := Kd.C_take C5 (Nat.zero_le l0.length)
      exact ⟨Ag, cg, A6, c6, rfl, hC, Nat.zero_le _, D5, M5, B5⟩
    | succ gko =>
      obtain ⟨N, hN⟩ : ∃ N, N = gko + 1 := ⟨_, rfl⟩
      rw [← hN] at HN HF HGO HCG ⊢
      have hsum : ∀ W, Below wr.heap.size wr W → Calls Try.prog 9 #[.agg #[.int .i64 B, .int .i64 m, .int .i64 cr, .slice Ag N cg]] W fun e w' => e = .returned (.int .i64 (sumP (l0.take N))) ∧ Below W.heap.size W w' := fun W hb => by
        have hl : (l0.take N).length = N := by rw [List.length_take]; have := HN.out; omega
        have hC := Kd.C_take (Kd.C_below (Kd.R_reads' HRL.out).2.2 hb) HN.out
        have hcap := (Kd.R_reads' HRL.out).2.1
        have h := ledger_Ledger_Sum.calls k B m cr Ag cg (l0.take N) (sumP (l0.take N)) W hC (by rw [hl]; have := HN.out; omega) (HK.out B N HN.out)
        rwa [hl] at h
      have HSUM := Aside0.mk hsum
      have e3 := (blk_cell HCG.out 3).trans (rfl : _ = some (Value.slice Ag N cg))
      have hw : wrap64 ((N : Int) - 1) = (gko : Int) := by have := HN.out; have := HL.out; unfold wrap64; omega
      have hlt : decide ((gko : Int) < 0) = false := decide_eq_false (by omega)
      have HNN := Aside0.mk hN
      clear hsum hN
      go_wp2
      clear e3 hw
      have g0 : ∀ W : World, Below wr.heap.size wr W → W.cell? ⟨G, 0, none⟩ = some (.int .i64 B) := fun W hb => (blk_cell (blk_below HCG.out hb) 0).trans rfl
      have g1 : ∀ W : World, Below wr.heap.size wr W → W.cell? ⟨G, 1, none⟩ = some (.int .i64 m) := fun W hb => (blk_cell (blk_below HCG.out hb) 1).trans rfl
      have g2 : ∀ W : World, Below wr.heap.size wr W → W.cell? ⟨G, 2, none⟩ = some (.int .i64 cr) := fun W hb => (blk_cell (blk_below HCG.out hb) 2).trans rfl
      have g3 : ∀ W : World, Below wr.heap.size wr W → W.cell? ⟨G, 3, none⟩ = some (.slice Ag N cg) := fun W hb => (blk_cell (blk_below HCG.out hb) 3).trans rfl
      by_cases hle : sumP (l0.take N) ≤ B
      · have hd : decide (sumP (l0.take N) ≤ B) = true := decide_eq_true hle
        have hz : fitn l0 B l0.length = N := by rw [HF.out, HNN.out, fitn, if_pos (by rw [← HNN.out]; exact hle)]
        have HZ := Aside0.mk hz
        clear hle hz
        go_region_held (fun w' => Below wr.heap.size wr w') (first | assumption | exact below_drew (Below.refl _ _) | exact below_step (by assumption) hb5) (first | (go_at_call 9; refine (HSUM.out _ (by assumption)).mono ?_; rintro e w5 ⟨rfl, hb5⟩))
        have HW5 := Aside0.mk (show Below wr.heap.size wr w5 by assumption)
        have k0 := g0 _ HW5.out
        have k1 := g1 _ HW5.out
        have k2 := g2 _ HW5.out
        have k3 := g3 _ HW5.out
        have HCH2 := Aside0.mk (blk_below HCH.out HW5.out)
        have h0 := (blk_cell HCH2.out 0).trans (rfl : _ = some (Value.int .i64 0))
        have h1 := (blk_cell HCH2.out 1).trans (rfl : _ = some (Value.int .i64 0))
        have h2 := (blk_cell HCH2.out 2).trans (rfl : _ = some (Value.int .i64 0))
        have h3 := (blk_cell HCH2.out 3).trans (rfl : _ = some (Value.slice none 0 0))
        have z0 := blk_frozen HCH2.out 0
        have z1 := blk_frozen HCH2.out 1
        have z2 := blk_frozen HCH2.out 2
        have z3 := blk_frozen HCH2.out 3
        clear g0 g1 g2 g3
        go_wp2
        simp only [Exit.noGoto_ret]
        obtain ⟨E5, C5, L5, D5, M5, B5⟩ := fit_end B m cr (.slice Ag N cg) HCH2.out (Kd.R_below HRL.out HW5.out) (Kd.R_below HGO.out HW5.out) HE.out (below_step HB.out HW5.out) (by rw [HG.out]; exact Nat.le_succ _)
        generalize (((w5.setCell ⟨G + 1, 0, none⟩ (.int .i64 B)).setCell ⟨G + 1, 1, none⟩ (.int .i64 m)).setCell ⟨G + 1, 2, none⟩ (.int .i64 cr)).setCell ⟨G + 1, 3, none⟩ (.slice Ag N cg) = W5 at E5 C5 D5 B5 ⊢
        refine bodyPost_ret (results_ct rfl _ _ (G + 1) 26 #[.int .i64 B, .int .i64 m, .int .i64 cr, .slice Ag N cg] (0, 0) _ rfl E5 Try.underlying26 rfl (by kernel_rfl)) rfl ?_
        rw [HZ.out]
        have hC := Kd.C_take C5 HN.out
        exact ⟨Ag, cg, A6, c6, rfl, hC, Nat.le_trans HN.out L5, D5, M5, B5⟩
      · have hd : decide (sumP (l0.take N) ≤ B) = false := decide_eq_false hle
        have hz : fitn l0 B l0.length = fitn l0 B gko := by rw [HF.out, HNN.out, fitn, if_neg (by rw [← HNN.out]; exact hle)]
        have HZ := Aside0.mk hz
        clear hle hz
        go_region_held (fun w' => Below wr.heap.size wr w') (first | assumption | exact below_drew (Below.refl _ _) | exact below_step (by assumption) hb5) (first | (go_at_call 9; refine (HSUM.out _ (by assumption)).mono ?_; rintro e w5 ⟨rfl, hb5⟩))
        have HW5 := Aside0.mk (show Below wr.heap.size wr w5 by assumption)
        have HCG5 := Aside0.mk (blk_below HCG.out HW5.out)
        have HCH5 := Aside0.mk (blk_below HCH.out HW5.out)
        have HRL5 := Aside0.mk (Kd.R_below HRL.out HW5.out)
        have HGO5 := Aside0.mk (Kd.R_below HGO.out HW5.out)
        have HB5 := Aside0.mk (below_step HB.out HW5.out)
        clear g0 g1 g2 g3 HCG HCH HRL HGO HB HW5 hd hlt
        have hgn : gko < l0.length := by have := HN.out; have := HNN.out; omega
        have hgN : (gko : Int) < (N : Int) := by have := HNN.out; omega
        obtain ⟨ad, eA, hx0, hx1⟩ := at_T37 (Kd.R_reads' HRL5.out).2.2 (gko : Int) (by omega) (by omega)
        cases eA
        rw [Int.toNat_natCast] at hx0 hx1
        have hcg := (Kd.R_reads' HRL5.out).2.1
        have hcut := cut_to (P := Try.prog) 24 37 .i64 Try.underlying24 fit_i37.choose_spec (some ad) N cg (gko : Int) (by omega) (by omega) (by have := HN.out; omega)
        rw [Int.toNat_natCast] at hcut
        have p1 : ((0 : Int) ≤ (gko : Int)) = True := eq_true (by omega)
        have q1 : ((gko : Int) < (N : Int)) = True := eq_true hgN
        have k3 := (blk_cell HCG5.out 3).trans (rfl : _ = some (Value.slice (some ad) N cg))
        have hnx : goneP l0 gko = goneP l0 N ++ [(rd_T37 l0 (gko : Int)).f0] := by rw [HNN.out]; exact goneP_step l0 gko hgn
        have HNX := Aside0.mk hnx
        have HGL := Aside0.mk (show (goneP l0 N).length ≤ 1000 by rw [goneP_len]; have := HL.out; omega)
        clear hgn hgN hcg hnx
        go_wp2_with (at_builtin; refine Kd.R_append (Kd.int .i64) (w0 := w) w.heap.size rfl (.tmp 29) (.tmp 36) 32 3 (.int .i64 0) 8 rfl Try.underlying32 fit_i3 rfl (by decide) (by omega) (.slice A6 (goneP l0 N).length c6) (goneP l0 N) ((rd_T37 l0 (gko : Int)).f0) [.int .i64 ((rd_T37 l0 (gko : Int)).f0)] (fun _ => True) (fun _ => False) rfl rfl ?aP (fun _ hk => hk.elim) (fun _ _ => trivial) ?aO ?aB ?aS ?aL ?_; (case aP => exact rfl); (case aO => exact HGO5.out); (case aB => exact HB5.out); (case aS => exact below_size HB5.out); (case aL => have := HGL.out; omega); intro v9 w9 ho hb hg hat; obtain ⟨A9, c9, rfl⟩ := Kd.R_slice ho; have HO9 := Aside0.mk ho; have HB9 := Aside0.mk hb; have HCG9 := Aside0.mk (blk_grown HCG5.out hg (Kd.R_ne HGO5.out HCG5.out (by decide))); have HCH9 := Aside0.mk (blk_grown HCH5.out hg (Kd.R_ne HGO5.out HCH5.out (by decide))); have HRL9 := Aside0.mk (Kd.R_over HRL5.out HGO5.out HE3.out hg); clear ho hb hg hat; have k9 := (blk_cell HCG9.out 3).trans (rfl : _ = some (Value.slice (some ad) N cg)); have z9 := blk_frozen HCG9.out 3)
        have hG0 := blk_put HCG9.out 3 (.slice (some ad) gko cg) (cs' := #[.int .i64 B, .int .i64 m, .int .i64 cr, .slice (some ad) gko cg]) rfl
        have hH0 := blk_far HCH9.out (p := ⟨G, 3, none⟩) (by simp) (.slice (some ad) gko cg)
        have hR0 := Kd.R_set HRL9.out HCG9.out HE.out 3 (.slice (some ad) gko cg)
        have hE4 : ∀ q, q ∈ 3 :: (Kd.int IntKind.i64).E → q ≠ 26 := by intro q hq; have e : (Kd.int IntKind.i64).E = [] := rfl; rw [e] at hq; simp at hq; omega
        have hO0 := Kd.R_set HO9.out HCG9.out hE4 3 (.slice (some ad) gko cg)
        have hB0 := below_set (j := 3) (v := .slice (some ad) gko cg) HB9.out (show w.heap.size ≤ G by rw [HG.out]; exact Nat.le_refl _)
        go_roundg gko
        case measure => omega
        case rel => exact ⟨⟨by have := HN.out; have := HNN.out; omega⟩, HZ, ⟨by rw [HNX.out]; have e_ : (goneP l0 N ++ [(rd_T37 l0 (gko : Int)).f0]).length = (goneP l0 N).length + 1 := (by simp); rw [e_] at hO0; exact hO0⟩, ⟨hG0⟩, ⟨hH0⟩, ⟨hR0⟩, ⟨hB0⟩⟩
end Go.Proofs.Ytjkbdpgeiiphoaa.PAll
