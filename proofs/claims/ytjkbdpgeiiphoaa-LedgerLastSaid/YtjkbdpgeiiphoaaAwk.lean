/- The walk of the law's own awake, by hand (no statement stands here). -/
import Derived.Test.YtjkbdpgeiiphoaaGrantW
namespace Go.Proofs.Ytjkbdpgeiiphoaa.PAll
open Go.RowKit Go.Proofs.YtjkbdpgeiiphoaaW.PrintWords Go.Proofs.YtjkbdpgeiiphoaaW.PrintLast Go.Proofs.YtjkbdpgeiiphoaaW.PrintMore
set_option linter.unusedVariables false
set_option linter.unusedSimpArgs false
theorem awk_g1 : ledger_Ledger_Grant.f 20 10 0 0 [] 1 6 = some (10, 0, 0, [⟨1, 6⟩], 0) := by kernel_rfl
theorem awk_g2 : ledger_Ledger_Grant.f 20 10 0 0 [⟨1, 6⟩] 2 5 = some (10, 0, 0, [⟨1, 6⟩], 20) := by kernel_rfl
theorem awk_s : ledger_Ledger_Sum.f 20 10 0 0 [⟨1, 6⟩] = some 6 := by kernel_rfl
theorem awk_c : ledger_Permit_14.f [⟨1, 6⟩] = some [⟨1, 6⟩] := by kernel_rfl
theorem awk_k (b : Int) (n : Nat) (h : n ≤ 1) : ledger_Ledger_Sum.f 20 b 0 0 (([⟨1, 6⟩] : List S37).take n) = some (sumP (([⟨1, 6⟩] : List S37).take n)) := by
  rcases n with _ | _ | n
  · kernel_rfl
  · kernel_rfl
  · omega
theorem awk_fit : fitn [⟨1, 6⟩] (clampB 5) 1 = 0 ∧ goneP [⟨1, 6⟩] 0 = [1] ∧ clampB 5 = 5 := ⟨by kernel_rfl, by kernel_rfl, by kernel_rfl⟩
theorem awk1 (W : World) : Calls Try.prog 6 #[.agg #[.int .i64 10, .int .i64 0, .int .i64 0, .slice none 0 0], .int .i64 1, .int .i64 6] W fun e w' => ∃ (A : Option Addr) (c : Nat), e = .returned (.tuple #[.agg #[.int .i64 10, .int .i64 0, .int .i64 0, .slice A 1 c], .int .i64 0]) ∧ Kd.C k37 w' A 1 [⟨1, 6⟩] ∧ 1 ≤ c ∧ Below W.heap.size W w' := by
  refine (Grant_calls 20 10 0 0 1 6 none 0 [] W (Kd.C_nil _ _) (Nat.le_refl _) (Nat.zero_le _) (by kernel_rfl) (by kernel_rfl) (by kernel_rfl) (by kernel_rfl) (by kernel_rfl) (by kernel_rfl)).mono ?_
  rintro e w' ⟨A, c, l, n, rfl, hg, hC, hc, hb⟩
  have hg' : n = 0 ∧ l = [] ++ [⟨1, 6⟩] := by
    unfold GrP at hg
    have e6 : wrap64 (wrap64 (sumP [] + 6) + freeP 0 0 []) = 6 := by kernel_rfl
    rw [e6] at hg
    rwa [if_neg (by decide)] at hg
  obtain ⟨rfl, rfl⟩ := hg'
  exact ⟨A, c, rfl, hC, hc, hb⟩
theorem awk2 (W : World) (A0 : Option Addr) (c0 : Nat) (h : Kd.C k37 W A0 1 [⟨1, 6⟩]) (hc0 : 1 ≤ c0) : Calls Try.prog 6 #[.agg #[.int .i64 10, .int .i64 0, .int .i64 0, .slice A0 1 c0], .int .i64 2, .int .i64 5] W fun e w' => ∃ (A : Option Addr) (c : Nat), e = .returned (.tuple #[.agg #[.int .i64 10, .int .i64 0, .int .i64 0, .slice A 1 c], .int .i64 20]) ∧ Below W.heap.size W w' := by
  refine (Grant_calls 20 10 0 0 2 5 A0 c0 [⟨1, 6⟩] W h hc0 (by decide) (by kernel_rfl) (by kernel_rfl) (by kernel_rfl) (by kernel_rfl) (by kernel_rfl) (by kernel_rfl)).mono ?_
  rintro e w' ⟨A, c, l, n, rfl, hg, hC, hc, hb⟩
  have hg' : n = 20 ∧ l = [⟨1, 6⟩] := by
    unfold GrP at hg
    have e6 : wrap64 (wrap64 (sumP [⟨1, 6⟩] + 5) + freeP 0 0 [⟨1, 6⟩]) = 11 := by kernel_rfl
    rw [e6] at hg
    rwa [if_pos (by decide)] at hg
  obtain ⟨rfl, rfl⟩ := hg'
  exact ⟨A, c, rfl, hb⟩
theorem awk3 (W : World) (A0 : Option Addr) (c0 : Nat) (h : Kd.C k37 W A0 1 [⟨1, 6⟩]) (hc0 : 1 ≤ c0) : Calls Try.prog 8 #[.agg #[.int .i64 10, .int .i64 0, .int .i64 0, .slice A0 1 c0], .int .i64 5] W fun e w' => ∃ (A : Option Addr) (c : Nat) (ad : Addr) (c2 : Nat), e = .returned (.tuple #[.agg #[.int .i64 5, .int .i64 0, .int .i64 0, .slice A 0 c], .slice (some ad) 1 c2]) ∧ w'.cell? ad = some (.int .i64 1) ∧ Below W.heap.size W w' := by
  refine (Fit_calls 20 10 0 0 5 A0 c0 [⟨1, 6⟩] W h hc0 (by decide) awk_c awk_k).mono ?_
  rintro e w' ⟨A, c, A2, c2, rfl, hC, hc, hD, hd, hb⟩
  have e1 : fitn [⟨1, 6⟩] (clampB 5) ([(⟨1, 6⟩ : S37)]).length = 0 := awk_fit.1
  have e2 : goneP [⟨1, 6⟩] 0 = [1] := awk_fit.2.1
  rw [e1, e2] at hD ⊢
  rw [awk_fit.2.2]
  obtain ⟨ad, rfl, hx⟩ := Kd.at_int hD 0 (by decide) (by decide)
  exact ⟨A, c, ad, c2, rfl, by simpa [Addr.add, rd] using hx, hb⟩
theorem awk4 (W : World) (A0 : Option Addr) (c0 : Nat) (h : Kd.C k37 W A0 1 [⟨1, 6⟩]) (hc0 : 1 ≤ c0) : Calls Try.prog 9 #[.agg #[.int .i64 10, .int .i64 0, .int .i64 0, .slice A0 1 c0]] W fun e w' => e = .returned (.int .i64 6) ∧ Below W.heap.size W w' :=
  ledger_Ledger_Sum.calls 20 10 0 0 A0 c0 [⟨1, 6⟩] 6 W h hc0 awk_s
set_option maxRecDepth 100000 in
set_option maxHeartbeats 4000000 in
theorem awake_true (w : World) : Calls Try.prog 5 #[] w fun e w' => e = .returned (.bool true) ∧ Below w.heap.size w w' := by
  have hu26 := Try.underlying26
  have hu37 := Try.underlying37
  have HB := Aside0.mk (Below.refl w.heap.size w)
  go_enter Try.func5, Try.ntmps5
  go_wp2_with (first
    | (go_at_call 6; (have h_ := hone); refine (awk2 _ A1 c1 (Kd.C_alloc HC1.out _) HL1.out).mono ?_; rintro e w2 ⟨A2, c2, rfl, hb2⟩; have HBL2 := Aside0.mk (below_step (below_alloc HBL1.out _) hb2); have HC2 := Aside0.mk (Kd.C_below (Kd.C_alloc HC1.out _) hb2); have HN2 := Aside0.mk (blk_below (blk_new w1 _) hb2); clear hb2; generalize w1.heap.size = N at HN2 ⊢; have n0 := fun o : Obj => (blk_cell (blk_alloc HN2.out o) 0).trans (rfl : _ = some (Value.int .i64 10)); have n1 := fun o : Obj => (blk_cell (blk_alloc HN2.out o) 1).trans (rfl : _ = some (Value.int .i64 0)); have n2 := fun o : Obj => (blk_cell (blk_alloc HN2.out o) 2).trans (rfl : _ = some (Value.int .i64 0)); have n3 := fun o : Obj => (blk_cell (blk_alloc HN2.out o) 3).trans (rfl : _ = some (Value.slice A1 1 c1)))
    | (go_at_call 6; refine (awk1 _).mono ?_; rintro e w1 ⟨A1, c1, rfl, hC1, hl1, hb1⟩; have HBL1 := Aside0.mk (below_step (below_alloc HB.out _) hb1); have HC1 := Aside0.mk hC1; have HL1 := Aside0.mk hl1; clear hC1 hl1 hb1; have hone := Aside0.mk True.intro)
    | (go_at_call 8; refine (awk3 _ A1 c1 (Kd.C_alloc HC2.out _) HL1.out).mono ?_; rintro e w3 ⟨A3, c3, ad3, c4, rfl, hx3, hb3⟩; have HBL3 := Aside0.mk (below_step (below_alloc HBL2.out _) hb3); have HC3 := Aside0.mk (Kd.C_below (Kd.C_alloc HC2.out _) hb3); have HN3 := Aside0.mk (blk_below (blk_alloc HN2.out _) hb3); clear hb3 n0 n1 n2 n3; have n0 := fun o : Obj => (blk_cell (blk_alloc HN3.out o) 0).trans (rfl : _ = some (Value.int .i64 10)); have n1 := fun o : Obj => (blk_cell (blk_alloc HN3.out o) 1).trans (rfl : _ = some (Value.int .i64 0)); have n2 := fun o : Obj => (blk_cell (blk_alloc HN3.out o) 2).trans (rfl : _ = some (Value.int .i64 0)); have n3 := fun o : Obj => (blk_cell (blk_alloc HN3.out o) 3).trans (rfl : _ = some (Value.slice A1 1 c1)); have x3 := fun o : Obj => (World.cell?_alloc_lt w3 o ad3 (World.block_lt_of_cell? w3 _ hx3)).trans hx3)
    | (go_at_call 9; refine (awk4 _ A1 c1 (Kd.C_alloc HC3.out _) HL1.out).mono ?_; rintro e w4 ⟨rfl, hb4⟩; have HBL4 := Aside0.mk (below_step (below_alloc HBL3.out _) hb4); clear hb4))
  go_ret
  exact ⟨rfl, HBL4.out⟩
end Go.Proofs.Ytjkbdpgeiiphoaa.PAll
