/- LedgerLast: what is cut are the permits that were granted last. No condition. -/
import Derived.Test.YtjkbdpgeiiphoaaCheckW
namespace Go.Proofs.Ytjkbdpgeiiphoaa.PAll
open Go.RowKit Go.Proofs.YtjkbdpgeiiphoaaW.PrintWords Go.Proofs.YtjkbdpgeiiphoaaW.PrintLast Go.Proofs.YtjkbdpgeiiphoaaW.PrintMore
attribute [local go_sem] min_two max_two
set_option linter.unusedVariables false
set_option linter.unusedSimpArgs false
theorem fitn_le (l : List S37) (B : Int) : ∀ n, fitn l B n ≤ n
  | 0 => Nat.le_refl _
  | n + 1 => by
    unfold fitn
    split
    · exact Nat.le_refl _
    · exact Nat.le_succ_of_le (fitn_le l B n)
theorem fitn_sum (l : List S37) (B : Int) (hB : 0 ≤ B) : ∀ n, sumP (l.take (fitn l B n)) ≤ B
  | 0 => by simp [fitn, sumP]; exact hB
  | n + 1 => by
    unfold fitn
    split
    · assumption
    · exact fitn_sum l B hB n
theorem fitn_next (l : List S37) (B : Int) : ∀ n, fitn l B n < n → B < sumP (l.take (fitn l B n + 1))
  | 0 => fun h => by omega
  | n + 1 => by
    unfold fitn
    split
    · intro h; omega
    · rename_i hc
      intro h
      by_cases he : fitn l B n = n
      · rw [he]; omega
      · exact fitn_next l B n (by have := fitn_le l B n; omega)
theorem fitn_self (l : List S37) (B : Int) (n : Nat) (h : sumP (l.take n) ≤ B) (hn : n ≤ l.length) : fitn (l.take n) B n = n := by
  cases n with
  | zero => rfl
  | succ n => unfold fitn; rw [if_pos (by rw [List.take_take, Nat.min_self]; exact h)]
theorem clampB_bound (a : Int) : 0 ≤ clampB a ∧ clampB a ≤ 1048576 := by unfold clampB; split <;> split <;> omega
theorem goneP_get (l : List S37) (n i : Nat) (h1 : n ≤ i) (h2 : i < l.length) : rd (goneP l n) ((l.length - 1 - i : Nat) : Int) = (rd_T37 l (i : Int)).f0 := by
  have hl := goneP_len l n
  rw [rd_nat _ _ (by omega), rd_T37_nat l i h2]
  simp only [goneP, List.getElem_reverse, List.getElem_map, List.getElem_drop, List.length_map, List.length_drop]
  congr 2
  omega
theorem sumP_take (l : List S37) (i : Nat) (h : i < l.length) : sumP (l.take (i + 1)) = sumP (l.take i) + (rd_T37 l (i : Int)).f1 := by
  rw [rd_T37_nat l i h, sumP_sum, sumP_sum, List.take_add_one, List.getElem?_eq_getElem h, List.map_append, List.sum_append]
  simp
theorem Fit1 (m cr bud : Int) (A0 : Option Addr) (c0 : Nat) (l0 : List S37) (n : Nat) (B : Int) (hB : B = clampB bud) (hn : n = fitn l0 B l0.length) (hv : ∀ p ∈ l0, okP p) (hl : l0.length ≤ 64) (b : Int) (W : World) (hC : Kd.C k37 W A0 l0.length l0) (hc : l0.length ≤ c0) :
    Calls Try.prog 8 #[.agg #[.int .i64 b, .int .i64 m, .int .i64 cr, .slice A0 l0.length c0], .int .i64 bud] W fun e w' => ∃ (A : Option Addr) (c : Nat) (A2 : Option Addr) (c2 : Nat),
      e = .returned (.tuple #[.agg #[.int .i64 B, .int .i64 m, .int .i64 cr, .slice A n c], .slice A2 (l0.length - n) c2])
      ∧ Kd.C k37 w' A n (l0.take n) ∧ n ≤ c ∧ Kd.C (Kd.int .i64) w' A2 (l0.length - n) (goneP l0 n) ∧ Below W.heap.size W w' := by
  have hle := fitn_le l0 B l0.length
  have h := Fit_calls 200 b m cr bud A0 c0 l0 W hC hc (by omega) (clone_ev l0 (by omega)) (fun b' j hj => sum_ev _ _ _ _ (fun p hp => hv p (List.mem_of_mem_take hp)) (by rw [List.length_take]; omega) _ (by rw [List.length_take]; omega))
  rw [← hB, ← hn, goneP_len] at h
  refine h.mono ?_
  rintro e w' ⟨A, c, A2, c2, rfl, h1, h2, h3, h4, h5⟩
  have e1 : (l0.take n).length = n := by rw [List.length_take]; omega
  rw [e1] at h1
  exact ⟨A, c, A2, c2, rfl, h1, h2, h3, h5⟩
theorem eqA37 (d : Nat) (w : World) (x0 y0 x1 y1 : Int) :
    (Op.equalIn (d + 2) 37 (.agg #[.int .i64 x0, .int .i64 x1]) (.agg #[.int .i64 y0, .int .i64 y1])).run Try.prog w = .ok (x0 == y0 && (x1 == y1)) w := by
  refine eqA_of Try.underlying37 (by kernel_rfl) ?_
  refine eqf_cons (by rfl) (by go_simp; rfl) (by go_simp; rfl) (by go_simp) ?_
  exact eqf_last (by rfl) (by go_simp; rfl) (by go_simp; rfl) (by go_simp)
theorem neq_same (x y : Int) : ∀ W : World, (Op.equal 37 (.agg #[.int .i64 x, .int .i64 y]) (.agg #[.int .i64 x, .int .i64 y])).run Try.prog W = .ok true W := by
  intro W
  have h := eqA37 (Op.maxDepth - 2) W x x y y
  rw [show Op.maxDepth - 2 + 2 = Op.maxDepth from rfl] at h
  simpa [Op.equal] using h
set_option maxRecDepth 100000 in
set_option maxHeartbeats 4000000 in
theorem Last_long (b m cr bud : Int) (A0 : Option Addr) (c0 : Nat) (l0 : List S37) (w : World) (hn : 64 < l0.length) :
    Calls Try.prog 4 #[.agg #[.int .i64 b, .int .i64 m, .int .i64 cr, .slice A0 l0.length c0], .int .i64 bud] w fun e w' => e = .returned (.bool true) ∧ Below w.heap.size w w' := by
  have hu26 := Try.underlying26
  have hu37 := Try.underlying37
  have hd : decide (64 < l0.length) = true := decide_eq_true hn
  have hd2 : decide ((64 : Int) < (l0.length : Int)) = true := decide_eq_true (by omega)
  have HG0 := Aside0.mk (blk_new w (.cells #[.int .i64 b, .int .i64 m, .int .i64 cr, .slice A0 l0.length c0] 26))
  have HB0 := Aside0.mk (below_alloc (Below.refl w.heap.size w) (.cells #[.int .i64 b, .int .i64 m, .int .i64 cr, .slice A0 l0.length c0] 26))
  clear hn
  go_enter Try.func4, Try.ntmps4
  go_wp2_with (first | (go_at_call 5; refine (awake_true _).mono ?_; rintro e w1 ⟨rfl, hb1⟩; have HG1 := Aside0.mk (blk_below HG0.out hb1); have HB1 := Aside0.mk (below_step HB0.out hb1); clear hb1; have g3 := (blk_cell HG1.out 3).trans (rfl : _ = some (Value.slice A0 l0.length c0))))
  go_ret
  exact ⟨rfl, HB1.out⟩
set_option maxRecDepth 100000 in
set_option maxHeartbeats 4000000 in
theorem Last_short (b m cr bud : Int) (A0 : Option Addr) (c0 : Nat) (l0 : List S37) (w : World) (hr0 : Kd.C k37 w A0 l0.length l0) (hc0 : l0.length ≤ c0) (hl : l0.length ≤ 64) :
    Calls Try.prog 4 #[.agg #[.int .i64 b, .int .i64 m, .int .i64 cr, .slice A0 l0.length c0], .int .i64 bud] w fun e w' => e = .returned (.bool true) ∧ Below w.heap.size w w' := by
  have hu26 := Try.underlying26
  have hu37 := Try.underlying37
  have hd : decide (64 < l0.length) = false := decide_eq_false (by omega)
  have hd2 : decide ((64 : Int) < (l0.length : Int)) = false := decide_eq_false (by omega)
  obtain ⟨B, hB⟩ : ∃ B, B = clampB bud := ⟨_, rfl⟩
  obtain ⟨n, hn⟩ : ∃ n, n = fitn l0 B l0.length := ⟨_, rfl⟩
  have hB0 : 0 ≤ B := by rw [hB]; exact (clampB_bound bud).1
  have hnl : n ≤ l0.length := by rw [hn]; exact fitn_le _ _ _
  have hsn : sumP (l0.take n) ≤ B := by rw [hn]; exact fitn_sum _ _ hB0 _
  have hnx : n < l0.length → B < sumP (l0.take (n + 1)) := by rw [hn]; exact fitn_next l0 B l0.length
  have hmx := max_is (x := bud) (y := 0) rfl
  have hmn : Builtin.min2 (.int .i64 (if bud < 0 then 0 else bud)) (.int .i64 1048576) = pure (.int .i64 B) := by rw [hB]; exact min_is rfl
  generalize (if bud < 0 then (0 : Int) else bud) = x1 at hmx hmn
  have hd3 : decide (B < sumP (l0.take n)) = false := decide_eq_false (by omega)
  have hadd : wrap64 ((n : Int) + ((l0.length - n : Nat) : Int)) = (l0.length : Int) := by rw [w_small _ (by omega)]; omega
  have hadd2 : IntKind.i64.wrap ((n : Int) + ((l0.length - n : Nat) : Int)) = (l0.length : Int) := (i64_w _).trans hadd
  have HR0 := Aside0.mk hr0
  have HC0 := Aside0.mk hc0
  have HL := Aside0.mk hl
  have HNL := Aside0.mk hnl
  have HSN := Aside0.mk hsn
  have HNX := Aside0.mk hnx
  have HFIT := Aside0.mk (Fit1 m cr bud A0 c0 l0 n B hB hn)
  have hself := fitn_self l0 B n hsn hnl
  have hlt : (l0.take n).length = n := by rw [List.length_take]; omega
  have HFIT2 := Aside0.mk (show ∀ (A1 : Option Addr) (c1 : Nat) (W : World), (∀ p ∈ l0, okP p) → Kd.C k37 W A1 n (l0.take n) → n ≤ c1 → Calls Try.prog 8 #[.agg #[.int .i64 B, .int .i64 m, .int .i64 cr, .slice A1 n c1], .int .i64 bud] W (fun e w' => ∃ (A : Option Addr) (c : Nat) (A2 : Option Addr) (c2 : Nat), e = .returned (.tuple #[.agg #[.int .i64 B, .int .i64 m, .int .i64 cr, .slice A n c], .slice A2 0 c2]) ∧ Below W.heap.size W w') from fun A1 c1 W hv hC hc => by
    have h := Fit1 m cr bud A1 c1 (l0.take n) n B hB (by rw [hlt]; exact hself.symm) (fun p hp => hv p (List.mem_of_mem_take hp)) (by rw [hlt]; omega) B W (by rw [hlt]; exact hC) (by rw [hlt]; exact hc)
    rw [hlt, Nat.sub_self] at h
    exact h.mono fun e w' ⟨A, c, A2, c2, h1, _, _, _, h5⟩ => ⟨A, c, A2, c2, h1, h5⟩)
  have HSUM := Aside0.mk (show ∀ (A1 : Option Addr) (c1 : Nat) (W : World), (∀ p ∈ l0, okP p) → Kd.C k37 W A1 n (l0.take n) → n ≤ c1 → Calls Try.prog 9 #[.agg #[.int .i64 B, .int .i64 m, .int .i64 cr, .slice A1 n c1]] W (fun e w' => e = .returned (.int .i64 (sumP (l0.take n))) ∧ Below W.heap.size W w') from fun A1 c1 W hv hC hc => by
    have h := ledger_Ledger_Sum.calls 200 B m cr A1 c1 (l0.take n) _ W (by rw [hlt]; exact hC) (by rw [hlt]; exact hc) (sum_ev _ _ _ _ (fun p hp => hv p (List.mem_of_mem_take hp)) (by rw [hlt]; omega) 200 (by rw [hlt]; omega))
    rwa [hlt] at h)
  have HSELF := Aside0.mk (show n = fitn (l0.take n) B (l0.take n).length by rw [hlt]; exact hself.symm)
  have HTL := Aside0.mk hlt
  have HBB := Aside0.mk hB
  have HG0 := Aside0.mk (blk_new w (.cells #[.int .i64 b, .int .i64 m, .int .i64 cr, .slice A0 l0.length c0] 26))
  have HB0 := Aside0.mk (below_alloc (Below.refl w.heap.size w) (.cells #[.int .i64 b, .int .i64 m, .int .i64 cr, .slice A0 l0.length c0] 26))
  obtain ⟨G, hG⟩ : ∃ G, G = w.heap.size := ⟨_, rfl⟩
  clear hr0 hc0 hl hnl hsn hnx hB0 hB hn hself hlt
  go_enter Try.func4, Try.ntmps4
  go_wp2_with (first
    | (go_at_call 5; refine (awake_true _).mono ?_; rintro e w1 ⟨rfl, hb1⟩; have HG1 := Aside0.mk (blk_below HG0.out hb1); have HB1 := Aside0.mk (below_step HB0.out hb1); clear hb1 HG0 HB0; have g0 := (blk_cell HG1.out 0).trans (rfl : _ = some (Value.int .i64 b)); have g1 := (blk_cell HG1.out 1).trans (rfl : _ = some (Value.int .i64 m)); have g2 := (blk_cell HG1.out 2).trans (rfl : _ = some (Value.int .i64 cr)); have g3 := (blk_cell HG1.out 3).trans (rfl : _ = some (Value.slice A0 l0.length c0)))
    | (go_at_call 7; refine (Check_calls b m cr A0 c0 l0 _ (Kd.C_below HR0.out HB1.out) HC0.out (by have := HL.out; omega)).mono ?_; rintro e w2 ⟨⟨r, rfl, hv⟩, hb2⟩; have HV := Aside0.mk hv; have HG2 := Aside0.mk (blk_below HG1.out hb2); have HB2 := Aside0.mk (below_step HB1.out hb2); clear hb2 hv HG1 HB1 g0 g1 g2 g3; have g0 := (blk_cell HG2.out 0).trans (rfl : _ = some (Value.int .i64 b)); have g1 := (blk_cell HG2.out 1).trans (rfl : _ = some (Value.int .i64 m)); have g2 := (blk_cell HG2.out 2).trans (rfl : _ = some (Value.int .i64 cr)); have g3 := (blk_cell HG2.out 3).trans (rfl : _ = some (Value.slice A0 l0.length c0)); cases r)
    | (go_at_call 8; (have h_ := hone); refine (HFIT2.out A1 c1 _ (HV.out (by first | trivial | rfl | simp)) (Kd.C_alloc HC1.out _) HL1.out).mono ?_; rintro e w4 ⟨A3, c3, A4, c4, rfl, hb4⟩; have HB4 := Aside0.mk (below_step (below_alloc HB3.out _) hb4); have HC41 := Aside0.mk (Kd.C_below (Kd.C_alloc HC1.out _) hb4); have HC42 := Aside0.mk (Kd.C_below (Kd.C_alloc HC2.out _) hb4); have HG4 := Aside0.mk (blk_below (blk_alloc HG3.out _) hb4); have HN7 := Aside0.mk (blk_below (blk_new w3 _) hb4); clear hb4 g0 g1 g2 g3; generalize w3.heap.size = N7 at HN7 ⊢; have g3 := fun o : Obj => (blk_cell (blk_alloc HG4.out o) 3).trans (rfl : _ = some (Value.slice A0 l0.length c0)); have n0 := fun o : Obj => (blk_cell (blk_alloc HN7.out o) 0).trans (rfl : _ = some (Value.int .i64 B)); have n1 := fun o : Obj => (blk_cell (blk_alloc HN7.out o) 1).trans (rfl : _ = some (Value.int .i64 m)); have n2 := fun o : Obj => (blk_cell (blk_alloc HN7.out o) 2).trans (rfl : _ = some (Value.int .i64 cr)); have n3 := fun o : Obj => (blk_cell (blk_alloc HN7.out o) 3).trans (rfl : _ = some (Value.slice A1 n c1)))
    | (go_at_call 8; refine (HFIT.out (HV.out (by first | trivial | rfl | simp)) HL.out b _ (Kd.C_below HR0.out HB2.out) HC0.out).mono ?_; rintro e w3 ⟨A1, c1, A2, c2, rfl, hC1, hl1, hC2, hb3⟩; have HB3 := Aside0.mk (below_step HB2.out hb3); have HC1 := Aside0.mk hC1; have HL1 := Aside0.mk hl1; have HC2 := Aside0.mk hC2; have HG3 := Aside0.mk (blk_below HG2.out hb3); clear hb3 hC1 hl1 hC2; have hone := Aside0.mk True.intro)
    | (go_at_call 9; refine (HSUM.out A1 c1 _ (HV.out (by first | trivial | rfl | simp)) (Kd.C_alloc HC41.out _) HL1.out).mono ?_; rintro e w5 ⟨rfl, hb5⟩; have HB5 := Aside0.mk (below_step (below_alloc HB4.out _) hb5); have HC51 := Aside0.mk (Kd.C_below (Kd.C_alloc HC41.out _) hb5); have HC52 := Aside0.mk (Kd.C_below (Kd.C_alloc HC42.out _) hb5); have HG5 := Aside0.mk (blk_below (blk_alloc HG4.out _) hb5); have HN75 := Aside0.mk (blk_below (blk_alloc HN7.out _) hb5); have HN9 := Aside0.mk (blk_below (blk_new w4 _) hb5); clear hb5 g3 n0 n1 n2 n3; generalize w4.heap.size = N9 at HN9 ⊢; have g3 := (blk_cell HG5.out 3).trans (rfl : _ = some (Value.slice A0 l0.length c0)); have n3 := (blk_cell HN75.out 3).trans (rfl : _ = some (Value.slice A1 n c1)); have m3 := (blk_cell HN9.out 3).trans (rfl : _ = some (Value.slice A3 n c3))))
  all_goals first | (go_ret; exact ⟨rfl, HB2.out⟩) | skip
  clear HFIT HFIT2 HSUM HSELF hmx hmn hadd hadd2 hd hd2 hd3
  go_loopg [11, 12] l0.length (fun g v11 v12 w' => ∃ i : Nat, v12 = .int .i64 i ∧ v11 = .int .i64 (sumP (l0.take i)) ∧ Aside0 (g + i = l0.length) ∧ Drawn0 w5 w')
  case atStart => exact ⟨0, rfl, rfl, ⟨by omega⟩, by repeat (first | exact Drawn0.refl _ | apply Drawn0.step)⟩
  case round =>
    obtain ⟨i, rfl, rfl, HI, ⟨q, rfl⟩⟩ := hrel
    cases gk with
    | zero =>
      have hlt : decide ((i : Int) < (l0.length : Int)) = false := decide_eq_false (by have := HI.out; omega)
      have hi : i = l0.length := by have := HI.out; omega
      subst hi
      go_wp2
      go_ret
      exact ⟨rfl, pw_below_drewN HB5.out _⟩
    | succ gko =>
      have hilt : i < l0.length := by have := HI.out; omega
      have hlt : decide ((i : Int) < (l0.length : Int)) = true := decide_eq_true (by omega)
      obtain ⟨ad0, e1, hx0, hx1⟩ := at_T37 HR0.out (i : Int) (by omega) (by omega)
      cases e1
      rw [Int.toNat_natCast] at hx0 hx1
      replace hx0 := (HB5.out.cell (World.block_lt_of_cell? w _ hx0)).trans hx0
      replace hx1 := (HB5.out.cell (World.block_lt_of_cell? w _ hx1)).trans hx1
      have hst := sumP_take l0 i hilt
      have hbd := sumP_bound l0 (HV.out (by first | trivial | rfl | simp))
      have p1 : ((0 : Int) ≤ (i : Int)) = True := eq_true (by omega)
      have q1 : ((i : Int) < (l0.length : Int)) = True := eq_true (by omega)
      have hbi := sumP_bound (l0.take (i + 1)) (fun p hp => HV.out (by first | trivial | rfl | simp) p (List.mem_of_mem_take hp))
      have hw : wrap64 (sumP (l0.take i) + (rd_T37 l0 (i : Int)).f1) = sumP (l0.take (i + 1)) := by
        rw [hst] at hbi ⊢
        exact w_small _ (by rw [List.length_take] at hbi; have := HL.out; omega)
      have hw2 : IntKind.i64.wrap (sumP (l0.take i) + (rd_T37 l0 (i : Int)).f1) = sumP (l0.take (i + 1)) := (i64_w _).trans hw
      have HLT := Aside0.mk hilt
      have hwi := wi i (by have := HL.out; omega)
      have hrd := rd_T37_nat l0 i hilt
      have hrt : i < n → rd_T37 (l0.take n) (i : Int) = rd_T37 l0 (i : Int) := fun h => by
        rw [rd_T37_nat _ i (by rw [HTL.out]; exact h), hrd, List.getElem_take]
      have hgn := goneP_get l0 n i
      have hnx := HNX.out
      have hnl := HNL.out
      obtain ⟨S2, hS2⟩ : ∃ S, S = sumP (l0.take (i + 1)) := ⟨_, rfl⟩
      rw [← hS2] at hw hw2
      have HS2 := Aside0.mk hS2
      clear hst hbd hbi hrd hS2
      by_cases h1 : i < n
      · have ht := hrt h1
        obtain ⟨ad1, e1, hy0, hy1⟩ := at_T37 HC51.out (i : Int) (by omega) (by omega)
        cases e1
        rw [Int.toNat_natCast, ht] at hy0 hy1
        have hd1 : decide ((i : Int) < (n : Int)) = true := decide_eq_true (by omega)
        have hd4 : ((i : Int) == (n : Int)) = false := by simp; omega
        have q2 : ((i : Int) < (n : Int)) = True := eq_true (by omega)
        have hd5 : decide ((n : Int) ≤ (i : Int)) = false := decide_eq_false (by omega)
        have hd6 : decide (n ≤ i) = false := decide_eq_false (by omega)
        have hne := neq_same (rd_T37 l0 (i : Int)).f0 (rd_T37 l0 (i : Int)).f1
        clear hrt ht hgn hnx
        go_wp2
        go_quiet (fail)
        go_wp2
        go_roundg gko
        case measure => omega
        case rel => exact ⟨i + 1, by rw [hwi], by rw [HS2.out], ⟨by have := HI.out; omega⟩, by repeat (first | exact Drawn0.refl _ | apply Drawn0.step)⟩
      · have hd1 : decide ((i : Int) < (n : Int)) = false := decide_eq_false (by omega)
        have hd5 : decide ((n : Int) ≤ (i : Int)) = true := decide_eq_true (by omega)
        have hd6 : decide (n ≤ i) = true := decide_eq_true (by omega)
        have hix1 : wrap64 ((l0.length : Int) - 1) = ((l0.length - 1 : Nat) : Int) := by rw [w_small _ (by have := HL.out; omega)]; omega
        have hix2 : wrap64 (((l0.length - 1 : Nat) : Int) - (i : Int)) = ((l0.length - 1 - i : Nat) : Int) := by rw [w_small _ (by have := HL.out; omega)]; omega
        have hix3 := (i64_w _).trans hix1
        have hix4 := (i64_w _).trans hix2
        have hg := hgn (by omega) hilt
        obtain ⟨ad2, e2, hz0⟩ := Kd.at_int HC52.out ((l0.length - 1 - i : Nat) : Int) (by omega) (by omega)
        cases e2
        rw [Int.toNat_natCast, hg] at hz0
        have q3 : (((l0.length - 1 - i : Nat) : Int) < ((l0.length - n : Nat) : Int)) = True := eq_true (by omega)
        have p3 : ((0 : Int) ≤ ((l0.length - 1 - i : Nat) : Int)) = True := eq_true (by omega)
        generalize l0.length - 1 - i = ix at hix2 hix4 hz0 q3 p3
        generalize l0.length - 1 = ly at hix1 hix2 hix3 hix4
        by_cases h2 : i = n
        · subst h2
          have hs2 : decide (S2 ≤ B) = false := decide_eq_false (by have := hnx hilt; rw [HS2.out]; omega)
          clear hrt hgn hnx hg hilt
          go_wp2
          go_quiet (fail)
          go_wp2
          go_roundg gko
          case measure => omega
          case rel => exact ⟨i + 1, by rw [hwi], by rw [HS2.out], ⟨by have := HI.out; omega⟩, by repeat (first | exact Drawn0.refl _ | apply Drawn0.step)⟩
        · have hd4 : ((i : Int) == (n : Int)) = false := by simp; omega
          clear hrt hgn hnx hg hilt
          go_wp2
          go_quiet (fail)
          go_wp2
          go_roundg gko
          case measure => omega
          case rel => exact ⟨i + 1, by rw [hwi], by rw [HS2.out], ⟨by have := HI.out; omega⟩, by repeat (first | exact Drawn0.refl _ | apply Drawn0.step)⟩
end Go.Proofs.Ytjkbdpgeiiphoaa.PAll
