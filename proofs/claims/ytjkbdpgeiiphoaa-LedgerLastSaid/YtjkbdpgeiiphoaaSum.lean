/- Plain lemmas on what permits come to (no statement stands here). -/
import Derived.Test.YtjkbdpgeiiphoaaAwk
import Derived.OpenShut
namespace Go.Proofs.Ytjkbdpgeiiphoaa.PAll
open Go.RowKit Go.Proofs.YtjkbdpgeiiphoaaW.PrintWords Go.Proofs.YtjkbdpgeiiphoaaW.PrintLast Go.Proofs.YtjkbdpgeiiphoaaW.PrintMore
set_option linter.unusedVariables false
set_option linter.unusedSimpArgs false
theorem w_small (x : Int) (h : -4611686018427387904 ≤ x ∧ x ≤ 4611686018427387904) : wrap64 x = x := by unfold wrap64; omega
theorem power_ok (p : Int) (h : 0 ≤ p ∧ p ≤ 1048576) : ledger_power.f p = some true := by
  unfold ledger_power.f
  rw [if_pos h.1, decide_eq_true h.2]
theorem bnd_small (x : Int) (h : -1099511627776 ≤ x ∧ x ≤ 1099511627776) : bnd x = x := by
  unfold bnd mx mn
  split <;> split <;> omega
theorem add_small (x y : Int) (hx : 0 ≤ x ∧ x ≤ 549755813888) (hy : 0 ≤ y ∧ y ≤ 549755813888) : sat_Add.f x y = some (x + y, false) := by
  have e1 : bnd x = x := bnd_small x (by omega)
  have e2 : bnd y = y := bnd_small y (by omega)
  have e3 : wrap64 (x + y) = x + y := w_small _ (by omega)
  have e4 : bnd (x + y) = x + y := bnd_small _ (by omega)
  unfold sat_Add.f
  rw [e1, e2, e3, e4]
  simp
theorem rd_nat (l : List Int) (i : Nat) (h : i < l.length) : rd l (i : Int) = l[i] := by
  unfold rd; rw [Int.toNat_natCast, List.getD_eq_getElem?_getD, List.getElem?_eq_getElem h, Option.getD_some]
theorem wi (i : Nat) (h : i ≤ 100000) : wrap64 ((i : Int) + 1) = ((i + 1 : Nat) : Int) := by rw [w_small _ (by omega)]; omega
theorem sat_l0 (l : List Int) (hb : ∀ x ∈ l, 0 ≤ x ∧ x ≤ 1048576) (hl : l.length ≤ 10000) (d : Nat) : ∀ (i k : Nat) (acc : Int), l.length - i = d → i ≤ l.length → d < k → 0 ≤ acc → acc ≤ 1048576 * i →
    sat_Sum.l0 k acc false l (l.length : Int) (i : Int) = some (acc + (l.drop i).sum, false) := by
  induction d with
  | zero =>
    intro i k acc hd hi hk h0 h1
    obtain ⟨k, rfl⟩ : ∃ m, k = m + 1 := ⟨k - 1, by omega⟩
    simp only [sat_Sum.l0]
    rw [if_neg (by omega), List.drop_of_length_le (by omega)]
    simp
  | succ d ih =>
    intro i k acc hd hi hk h0 h1
    obtain ⟨k, rfl⟩ : ∃ m, k = m + 1 := ⟨k - 1, by omega⟩
    have hlt : i < l.length := by omega
    have hx := hb l[i] (List.getElem_mem hlt)
    simp only [sat_Sum.l0]
    rw [if_pos (by omega), if_pos (by omega), if_pos (by omega), rd_nat l i hlt, add_small acc l[i] (by omega) (by omega), Option.bind_some, if_neg (by decide), wi i (by omega), ih (i + 1) k (acc + l[i]) (by omega) (by omega) (by omega) (by omega) (by omega), List.drop_eq_getElem_cons hlt, List.sum_cons, Int.add_assoc]
theorem sat_ev (l : List Int) (hb : ∀ x ∈ l, 0 ≤ x ∧ x ≤ 1048576) (hl : l.length ≤ 10000) (k : Nat) (hk : l.length + 1 ≤ k) : sat_Sum.f k l = some (l.sum, false) := by
  have h := sat_l0 l hb hl l.length 0 k 0 (by omega) (by omega) (by omega) (by omega) (by omega)
  rw [Int.zero_add, List.drop_zero] at h
  exact h
theorem sumP_sum (l : List S37) : sumP l = (l.map S37.f1).sum := by
  induction l with
  | nil => rfl
  | cons x xs ih => simp only [sumP, ih, List.map_cons, List.sum_cons]
theorem sum_l0 (l : List S37) (hb : ∀ p ∈ l, 0 ≤ p.f1 ∧ p.f1 ≤ 1048576) (hl : l.length ≤ 10000) (d : Nat) : ∀ (i k : Nat), l.length - i = d → i ≤ l.length → d + l.length + 1 < k →
    ledger_Ledger_Sum.l0 k ((l.take i).map S37.f1) l (l.length : Int) (i : Int) = some (sumP l) := by
  induction d with
  | zero =>
    intro i k hd hi hk
    obtain ⟨k, rfl⟩ : ∃ m, k = m + 1 := ⟨k - 1, by omega⟩
    simp only [ledger_Ledger_Sum.l0]
    rw [if_neg (by omega), List.take_of_length_le (by omega), sat_ev _ (by
      intro x hx
      obtain ⟨p, hp, rfl⟩ := List.mem_map.1 hx
      exact hb p hp) (by rw [List.length_map]; omega) k (by rw [List.length_map]; omega), Option.bind_some, sumP_sum]
  | succ d ih =>
    intro i k hd hi hk
    obtain ⟨k, rfl⟩ : ∃ m, k = m + 1 := ⟨k - 1, by omega⟩
    have hlt : i < l.length := by omega
    have hr := rd_T37_nat l i hlt
    simp only [ledger_Ledger_Sum.l0]
    rw [if_pos (by omega), if_pos (by omega), if_pos (by omega), if_pos (by rw [List.length_map, List.length_take]; omega), wi i (by omega), hr]
    have ht : (l.take i).map S37.f1 ++ [l[i].f1] = (l.take (i + 1)).map S37.f1 := by
      rw [List.take_add_one, List.getElem?_eq_getElem hlt, List.map_append]; rfl
    rw [ht]
    exact ih (i + 1) k (by omega) (by omega) (by omega)
theorem sum_ev (b m cr : Int) (l : List S37) (hb : ∀ p ∈ l, 0 ≤ p.f1 ∧ p.f1 ≤ 1048576) (hl : l.length ≤ 10000) (k : Nat) (hk : 2 * l.length + 2 ≤ k) : ledger_Ledger_Sum.f k b m cr l = some (sumP l) := by
  have h := sum_l0 l hb hl l.length 0 k (by omega) (by omega) (by omega)
  exact h
theorem clone_ev (l : List S37) (h : l.length ≤ 10000) : ledger_Permit_14.f l = some l := by
  unfold ledger_Permit_14.f
  simp only [Option.bind_some]
  first
    | (rw [if_pos (by simp; omega), List.nil_append])
    | (rw [if_pos (by omega)])
    | simp
theorem sumP_bound (l : List S37) (hb : ∀ p ∈ l, 0 ≤ p.f1 ∧ p.f1 ≤ 1048576) : 0 ≤ sumP l ∧ sumP l ≤ 1048576 * l.length := by
  induction l with
  | nil => simp [sumP]
  | cons x xs ih =>
    obtain ⟨h1, h2⟩ := ih (fun p hp => hb p (List.mem_cons_of_mem _ hp))
    have h3 := hb x (List.mem_cons_self ..)
    simp only [sumP, List.length_cons]
    omega
end Go.Proofs.Ytjkbdpgeiiphoaa.PAll
