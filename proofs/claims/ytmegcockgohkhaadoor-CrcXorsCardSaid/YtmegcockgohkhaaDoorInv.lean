/- A region whose order is open, by an invariant over what has come up (no statement stands here). -/
import Derived.Test.YtmegcockgohkhaaDoorCrcOfW
import Derived.Orders
namespace Go.Proofs.YtmegcockgohkhaaDoor.PAll
open Go.RowKit Go.Proofs.YtmegcockgohkhaaDoorW.PrintWords Go.Proofs.YtmegcockgohkhaaDoorW.PrintLast Go.Proofs.YtmegcockgohkhaaDoorW.PrintMore
set_option linter.unusedVariables false
set_option linter.unusedSimpArgs false
theorem ready_mem {ops : Array Oper} {l : Array Bool} {i : Nat} (h : i ∈ Region.ready .any ops l) : i < ops.size ∧ l.getD i true = false ∧ ∀ o, ops[i]? = some o → ∀ e ∈ o.after, Region.binds .any e = true → l.getD e.on false = true := by
  unfold Region.ready at h
  rw [List.mem_filter, List.mem_range, Bool.and_eq_true] at h
  obtain ⟨h1, h2, h3⟩ := h
  refine ⟨h1, by simpa using h2, fun o ho e he hb => ?_⟩
  rw [ho] at h3
  simp only [Option.map_some, Option.getD_some] at h3
  have := (Array.all_eq_true'.1 h3) e he
  simpa [hb] using this
theorem getD_set_self (l : Array Bool) (i : Nat) (b : Bool) (hi : i < l.size) : (l.setIfInBounds i true).getD i b = true := by
  simp [Array.getD_eq_getD_getElem?, hi]
theorem getD_set_other (l : Array Bool) (i j : Nat) (b : Bool) (h : i ≠ j) : (l.setIfInBounds i true).getD j b = l.getD j b := by
  simp [Array.getD_eq_getD_getElem?, Array.getElem?_setIfInBounds_ne h]
def cntF (l : Array Bool) : Nat := l.toList.countP (fun b => !b)
theorem cntF_set (l : Array Bool) (i : Nat) (hi : i < l.size) (h : l.getD i true = false) : cntF (l.setIfInBounds i true) + 1 = cntF l := by
  unfold cntF
  have hl : i < l.toList.length := by simpa using hi
  have hv : l.toList[i] = false := by
    rw [Array.getD_eq_getD_getElem?, Array.getElem?_eq_getElem hi, Option.getD_some] at h
    simpa using h
  rw [Array.toList_setIfInBounds, List.countP_set hl, hv]
  have hp : 0 < l.toList.countP (fun b => !b) := List.countP_pos_iff.2 ⟨l.toList[i], List.getElem_mem hl, by rw [hv]; rfl⟩
  simp only [Bool.not_false, Bool.not_true, if_true, Bool.false_eq_true, if_false]
  omega
theorem cntF_pos (l : Array Bool) (i : Nat) (hi : i < l.size) (h : l.getD i true = false) : 0 < cntF l := by
  have := cntF_set l i hi h
  omega
theorem wpAny_inv {P : Program} {ops : Array Oper} {Q : Exit → Act → World → Prop} (I : Array Bool → Act → World → Prop)
    (hstep : ∀ l a w i, I l a w → l.size = ops.size → i < ops.size → (∀ o, ops[i]? = some o → ∀ e ∈ o.after, Region.binds .any e = true → l.getD e.on false = true) → wpOp P ops Q i (I (l.setIfInBounds i true)) a w)
    (hdone : ∀ l a w, I l a w → (∀ i, i < ops.size → l.getD i false = true) → Q .normal a w)
    (hends : ∀ l : Array Bool, l.size = ops.size → Region.ready .any ops l = [] → ∀ i, i < ops.size → l.getD i false = true) :
    ∀ fuel l a w, l.size = ops.size → cntF l ≤ fuel → I l a w → wpAny P .any ops Q fuel l a w := by
  intro fuel
  induction fuel with
  | zero =>
    intro l a w hs hc hI
    have hr : Region.ready .any ops l = [] := by
      rw [List.eq_nil_iff_forall_not_mem]
      intro i hi
      obtain ⟨h1, h2, _⟩ := ready_mem hi
      have := cntF_pos l i (by omega) h2
      omega
    exact ⟨hr, hdone l a w hI (hends l hs hr)⟩
  | succ n ih =>
    intro l a w hs hc hI
    refine ⟨fun hr => hdone l a w hI (hends l hs hr), fun i hi => ?_⟩
    obtain ⟨h1, h2, h3⟩ := ready_mem hi
    refine wpOp_mono (fun a' w' h => ih _ _ _ (by simpa using hs) (by have := cntF_set l i (by omega) h2; omega) h) (hstep l a w i hI hs h1 h3)
/-- What comes up waits only for what stands ahead of it: then all comes up. -/
theorem ends_of {ops : Array Oper} (hb : (List.range ops.size).all (fun i => ((ops[i]?).map fun o => o.after.all fun e => !Region.binds .any e || decide (e.on < i)).getD true) = true) (l : Array Bool) (hs : l.size = ops.size) (hr : Region.ready .any ops l = []) : ∀ i, i < ops.size → l.getD i false = true := by
  intro i
  induction i using Nat.strongRecOn with
  | _ i ih =>
    intro hi
    cases hv : l.getD i false with
    | true => rfl
    | false =>
      exfalso
      have ho : ops[i]? = some ops[i] := Array.getElem?_eq_getElem hi
      have hmem : i ∈ Region.ready .any ops l := by
        unfold Region.ready
        rw [List.mem_filter, List.mem_range, Bool.and_eq_true]
        refine ⟨hi, ?_, ?_⟩
        · have : l.getD i true = l.getD i false := by simp [Array.getD_eq_getD_getElem?, hs, hi]
          rw [this, hv]; rfl
        · rw [ho]
          simp only [Option.map_some, Option.getD_some]
          rw [Array.all_eq_true']
          intro e he
          have h1 := List.all_eq_true.1 hb i (List.mem_range.2 hi)
          rw [ho] at h1
          simp only [Option.map_some, Option.getD_some] at h1
          have h2 := (Array.all_eq_true'.1 h1) e he
          cases hbe : Region.binds .any e with
          | false => rfl
          | true =>
            rw [hbe] at h2
            simp at h2
            simp [ih e.on h2 (by omega)]
      rw [hr] at hmem
      cases hmem
end Go.Proofs.YtmegcockgohkhaaDoor.PAll
