/- LedgerFirst: what a ledger without permits grants, and with one. No condition. -/
import Derived.Test.YtjkbdpgeiiphoaaSum
import Derived.OpenShut
namespace Go.Proofs.Ytjkbdpgeiiphoaa.PAll
open Go.RowKit Go.Proofs.YtjkbdpgeiiphoaaW.PrintWords Go.Proofs.YtjkbdpgeiiphoaaW.PrintLast Go.Proofs.YtjkbdpgeiiphoaaW.PrintMore
attribute [local go_sem] min_two max_two
set_option linter.unusedVariables false
set_option linter.unusedSimpArgs false
theorem at_nil (b m cr c : Int) : ledger_Ledger_at.f b m cr [] c = some (-1) := rfl
theorem free_nil (b m cr : Int) : ledger_Ledger_free.f b m cr [] = some (freeP m cr []) := rfl
theorem at_one (b m cr : Int) (p : S37) (c : Int) (h : p.f0 ≠ c) : ledger_Ledger_at.f b m cr [p] c = some (-1) := by
  unfold ledger_Ledger_at.f ixf
  rw [if_pos (by simp)]
  have hb : (p.f0 == c) = false := by simpa using h
  simp [List.findIdx_cons, hb]
theorem free_one (b m cr : Int) (p : S37) : ledger_Ledger_free.f b m cr [p] = some (freeP m cr [p]) := rfl
theorem clone_one (p : S37) : ledger_Permit_14.f [p] = some [p] := rfl
theorem First_g1 (b m cr pk : Int) (hp : 0 ≤ pk ∧ pk ≤ 65535) (W : World) : Calls Try.prog 6 #[.agg #[.int .i64 b, .int .i64 m, .int .i64 cr, .slice none 0 0], .int .i64 3, .int .i64 pk] W fun e w' => ∃ (A : Option Addr) (c : Nat) (l : List S37) (n : Int),
    e = .returned (.tuple #[.agg #[.int .i64 b, .int .i64 m, .int .i64 cr, .slice A l.length c], .int .i64 n]) ∧ GrP b pk [] ⟨3, pk⟩ n l ∧ Kd.C k37 w' A l.length l ∧ l.length ≤ c ∧ Below W.heap.size W w' := by
  have e : wrap64 (wrap64 (sumP [] + pk) + freeP m cr []) = pk := by
    have h1 : sumP [] + pk = pk := by simp [sumP]
    have h2 : freeP m cr [] = 0 := rfl
    rw [h1, h2, w_small pk (by omega), Int.add_zero, w_small pk (by omega)]
  have h := Grant_calls 20 b m cr 3 pk none 0 [] W (Kd.C_nil _ _) (Nat.le_refl _) (Nat.zero_le _) rfl (power_ok pk (by omega)) (at_nil _ _ _ _) (sum_ev _ _ _ [] (by simp) (by simp) 20 (by simp)) (free_nil _ _ _) rfl
  rw [e] at h
  exact h
theorem First_g2 (b m cr pk ot : Int) (hp0 : 0 ≤ pk ∧ pk ≤ 65535) (ho : 0 ≤ ot ∧ ot ≤ 65535) (F : Int) (hF : mx (wrap64 (m - cr)) 0 = F) (hF2 : 0 ≤ F ∧ F ≤ 65535) (A0 : Option Addr) (c0 : Nat) (W : World) (h : Kd.C k37 W A0 1 [⟨3, pk⟩]) (hc0 : 1 ≤ c0) : Calls Try.prog 6 #[.agg #[.int .i64 b, .int .i64 m, .int .i64 cr, .slice A0 1 c0], .int .i64 4, .int .i64 ot] W fun e w' => ∃ (A : Option Addr) (c : Nat) (l : List S37) (n : Int),
    e = .returned (.tuple #[.agg #[.int .i64 b, .int .i64 m, .int .i64 cr, .slice A l.length c], .int .i64 n]) ∧ GrP b (pk + ot + F) [⟨3, pk⟩] ⟨4, ot⟩ n l ∧ Below W.heap.size W w' := by
  have e : wrap64 (wrap64 (sumP [⟨3, pk⟩] + ot) + freeP m cr [⟨3, pk⟩]) = pk + ot + F := by
    have h1 : sumP [(⟨3, pk⟩ : S37)] + ot = pk + ot := by simp [sumP]
    have h2 : freeP m cr [(⟨3, pk⟩ : S37)] = F := by rw [← hF]; rfl
    rw [h1, h2, w_small (pk + ot) (by omega), w_small _ (by omega)]
  have h := Grant_calls 20 b m cr 4 ot A0 c0 [⟨3, pk⟩] W h hc0 (by simp) rfl (power_ok ot (by omega)) (at_one _ _ _ _ _ (by simp)) (sum_ev _ _ _ [⟨3, pk⟩] (by intro p hp; rw [List.mem_singleton] at hp; subst hp; exact ⟨hp0.1, by have := hp0.2; simp; omega⟩) (by simp) 20 (by simp)) (free_one _ _ _ _) rfl
  rw [e] at h
  exact h.mono fun e w' ⟨A, c, l, n, h1, h2, _, _, h5⟩ => ⟨A, c, l, n, h1, h2, h5⟩
set_option maxRecDepth 100000 in
set_option maxHeartbeats 4000000 in
theorem First_all (a0 a1 a2 a3 a4 : Int) (w : World) (w0 : (Lit.int .u16 a0).wf = true) (w1 : (Lit.int .u16 a1).wf = true) (w2 : (Lit.int .u16 a2).wf = true) (w3 : (Lit.int .u16 a3).wf = true) (w4 : (Lit.int .u16 a4).wf = true) :
    Calls Try.prog 3 #[.int .u16 a0, .int .u16 a1, .int .u16 a2, .int .u16 a3, .int .u16 a4] w fun e w' => e = .returned (.bool true) ∧ Below w.heap.size w w' := by
  have b0 := Go.bounds_u16 w0
  have b1 := Go.bounds_u16 w1
  have b2 := Go.bounds_u16 w2
  have b3 := Go.bounds_u16 w3
  have b4 := Go.bounds_u16 w4
  clear w0 w1 w2 w3 w4
  have hu26 := Try.underlying26
  have hu37 := Try.underlying37
  have hw0 : wrap64 a0 = a0 := w_small _ (by omega)
  have hw1 : wrap64 a1 = a1 := w_small _ (by omega)
  have hw2 : wrap64 a2 = a2 := w_small _ (by omega)
  have hw3 : wrap64 a3 = a3 := w_small _ (by omega)
  have hw4 : wrap64 a4 = a4 := w_small _ (by omega)
  obtain ⟨F, hF⟩ : ∃ F, F = mx (wrap64 (a1 - a2)) 0 := ⟨_, rfl⟩
  have hF2 : 0 ≤ F ∧ F ≤ 65535 := by
    rw [hF, w_small _ (by omega)]; unfold mx; split <;> omega
  have hmx : Builtin.max2 (.int .i64 (wrap64 (a1 - a2))) (.int .i64 0) = pure (.int .i64 F) := max_is hF.symm
  have hmx2 : Builtin.max2 (.int .i64 (IntKind.i64.wrap (a1 - a2))) (.int .i64 0) = pure (.int .i64 F) := by rw [i64_w]; exact hmx
  have hs1 : wrap64 (a3 + a4) = a3 + a4 := w_small _ (by omega)
  have hs2 : wrap64 (a3 + a4 + F) = a3 + a4 + F := w_small _ (by omega)
  have hs3 : IntKind.i64.wrap (a3 + a4) = a3 + a4 := (i64_w _).trans hs1
  have hs4 : IntKind.i64.wrap (a3 + a4 + F) = a3 + a4 + F := (i64_w _).trans hs2
  have G1 := Aside0.mk (First_g1 a0 a1 a2 a3 b3)
  have G2 := Aside0.mk (First_g2 a0 a1 a2 a3 a4 b3 b4 F hF.symm hF2)
  have HB := Aside0.mk (Below.refl w.heap.size w)
  clear hF hF2 b0 b1 b2 b3 b4
  by_cases hful : a0 < a3
  · have hd : decide (a3 ≤ a0) = false := decide_eq_false (by omega)
    have HFU := Aside0.mk hful
    clear hful
    go_enter Try.func3, Try.ntmps3
    go_wp2_with (first
      | (go_at_call 5; refine (awake_true _).mono ?_; rintro e w1 ⟨rfl, hb1⟩; have HB1 := Aside0.mk (below_step HB.out hb1); clear hb1)
      | (go_at_call 6; refine (G1.out _).mono ?_; rintro e w2 ⟨A2, c2, l2, n2, rfl, hg2, hC2, hc2, hb2⟩; unfold GrP at hg2; rw [if_pos HFU.out] at hg2; obtain ⟨rfl, rfl⟩ := hg2; have HB2 := Aside0.mk (below_step (below_alloc HB1.out _) hb2); clear hb2))
    go_ret
    exact ⟨rfl, by repeat (first | exact HB2.out | apply below_alloc)⟩
  · have hd : decide (a3 ≤ a0) = true := decide_eq_true (by omega)
    have HFU := Aside0.mk hful
    clear hful
    by_cases hf2 : a0 < a3 + a4 + F
    · have hd2 : decide (a3 + a4 + F ≤ a0) = false := decide_eq_false (by omega)
      have HF2 := Aside0.mk hf2
      clear hf2
      go_enter Try.func3, Try.ntmps3
      go_wp2_with (first
        | (go_at_call 5; refine (awake_true _).mono ?_; rintro e w1 ⟨rfl, hb1⟩; have HB1 := Aside0.mk (below_step HB.out hb1); clear hb1)
        | (go_at_call 6; (have h_ := hone); refine (G2.out A2 c2 _ (Kd.C_alloc HC2.out _) HL2.out).mono ?_; rintro e w3 ⟨A3, c3, l3, n3, rfl, hg3, hb3⟩; unfold GrP at hg3; rw [if_pos HF2.out] at hg3; obtain ⟨rfl, rfl⟩ := hg3; have HB3 := Aside0.mk (below_step (below_alloc HB2.out _) hb3); clear hb3)
        | (go_at_call 6; refine (G1.out _).mono ?_; rintro e w2 ⟨A2, c2, l2, n2, rfl, hg2, hC2, hc2, hb2⟩; unfold GrP at hg2; rw [if_neg (by have := HFU.out; omega)] at hg2; obtain ⟨rfl, rfl⟩ := hg2; have HC2 := Aside0.mk hC2; have HL2 := Aside0.mk hc2; have HB2 := Aside0.mk (below_step (below_alloc HB1.out _) hb2); clear hb2 hC2 hc2; have hone := Aside0.mk True.intro))
      go_ret
      exact ⟨rfl, by repeat (first | exact HB3.out | apply below_alloc)⟩
    · have hd2 : decide (a3 + a4 + F ≤ a0) = true := decide_eq_true (by omega)
      have HF2 := Aside0.mk hf2
      clear hf2
      go_enter Try.func3, Try.ntmps3
      go_wp2_with (first
        | (go_at_call 5; refine (awake_true _).mono ?_; rintro e w1 ⟨rfl, hb1⟩; have HB1 := Aside0.mk (below_step HB.out hb1); clear hb1)
        | (go_at_call 6; (have h_ := hone); refine (G2.out A2 c2 _ (Kd.C_alloc HC2.out _) HL2.out).mono ?_; rintro e w3 ⟨A3, c3, l3, n3, rfl, hg3, hb3⟩; unfold GrP at hg3; rw [if_neg (by have := HF2.out; omega)] at hg3; obtain ⟨rfl, rfl⟩ := hg3; have HB3 := Aside0.mk (below_step (below_alloc HB2.out _) hb3); clear hb3)
        | (go_at_call 6; refine (G1.out _).mono ?_; rintro e w2 ⟨A2, c2, l2, n2, rfl, hg2, hC2, hc2, hb2⟩; unfold GrP at hg2; rw [if_neg (by have := HFU.out; omega)] at hg2; obtain ⟨rfl, rfl⟩ := hg2; have HC2 := Aside0.mk hC2; have HL2 := Aside0.mk hc2; have HB2 := Aside0.mk (below_step (below_alloc HB1.out _) hb2); clear hb2 hC2 hc2; have hone := Aside0.mk True.intro))
      go_ret
      exact ⟨rfl, by repeat (first | exact HB3.out | apply below_alloc)⟩
end Go.Proofs.Ytjkbdpgeiiphoaa.PAll
