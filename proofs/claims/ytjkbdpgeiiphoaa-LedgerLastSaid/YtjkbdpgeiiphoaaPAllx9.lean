-- Written by myprint.py: the kit's print.py over this seat's translation, with contracts of my own.
import Derived.Test.YtjkbdpgeiiphoaaPAllx0
namespace Go.Proofs.Ytjkbdpgeiiphoaa.PAll
open Go.RowKit Go.Proofs.YtjkbdpgeiiphoaaW.PrintWords Go.Proofs.YtjkbdpgeiiphoaaW.PrintLast Go.Proofs.YtjkbdpgeiiphoaaW.PrintMore
attribute [local go_sem] max2_int min2_int max_two min_two max_three min_three max_four min_four   -- for this text's walks alone
set_option linter.unusedVariables false
set_option linter.unusedSimpArgs false

/-! ### ledger_Ledger_at: function 12 -/
/-- The first place of which something is so; below 0: none. -/
def ixs (l : List S37) (g : S37 → Bool) : Nat → Int := fun i => if (l.drop i).findIdx g < (l.drop i).length then ((i + (l.drop i).findIdx g : Nat) : Int) else -1
def ixf (l : List S37) (g : S37 → Bool) : Int := if l.findIdx g < l.length then (l.findIdx g : Int) else -1
theorem ixs_zero (l : List S37) (g : S37 → Bool) : ixf l g = ixs l g 0 := by simp [ixf, ixs]
theorem ixs_end (l : List S37) (g : S37 → Bool) : ixs l g l.length = -1 := by simp [ixs]
theorem rd_T37_nat (l : List S37) (i : Nat) (h : i < l.length) : rd_T37 l (i : Int) = l[i] := by
  unfold rd_T37
  first
    | (rw [Int.toNat_natCast, List.getD_eq_getElem?_getD, List.getElem?_eq_getElem h, Option.getD_some])
    | (simp [h])
theorem ixs_step (l : List S37) (g : S37 → Bool) (i : Nat) (h : i < l.length) : ixs l g i = if g (rd_T37 l (i : Int)) = true then (i : Int) else ixs l g (i + 1) := by
  rw [rd_T37_nat l i h]
  unfold ixs
  rw [List.drop_eq_getElem_cons h, List.findIdx_cons]
  cases hg : g l[i] with
  | true => have : ¬ (l.length - i = 0) := (by omega); simp [this]
  | false =>
    simp only [cond_false, List.length_cons, Bool.false_eq_true, if_false]
    by_cases h2 : (l.drop (i + 1)).findIdx g < (l.drop (i + 1)).length
    · rw [if_pos (by omega), if_pos h2]; omega
    · rw [if_neg (by omega), if_neg h2]
theorem ix_wrap (n : Nat) (h : n ≤ 1099511627776) : wrap64 ((n : Int) + 1) = ((n + 1 : Nat) : Int) := by unfold wrap64; omega
set_option maxHeartbeats 4000000 in
set_option maxRecDepth 100000 in
theorem at_fn.calls (p : S37) (B : Nat) (car : Int) (W : World) (hB : W.cell? ⟨B, 0, none⟩ = some (.int .i64 car)) :
    Calls Try.prog 19 #[.agg #[.int .i64 p.f0, .int .i64 p.f1], .pointer (some ⟨B, 0, none⟩)] W fun e w' => e = .returned (.bool (p.f0 == car)) ∧ Below W.heap.size W w' := by
  have hu37 := Try.underlying37
  have hB2 := fun o : Obj => (World.cell?_alloc_lt W o ⟨B, 0, none⟩ (World.block_lt_of_cell? W _ hB)).trans hB
  go_enter Try.func19, Try.ntmps19
  go_wp2
  go_ret
  exact ⟨rfl, by repeat (first | exact Below.refl _ _ | apply below_alloc | apply below_drew1 | apply pw_below_drewN)⟩
set_option maxHeartbeats 4000000 in
set_option maxRecDepth 100000 in
theorem index_at.calls (A0 : Option Addr) (c0 : Nat) (l0 : List S37) (B : Nat) (g : S37 → Bool) (w : World) (hr0 : Kd.C k37 w A0 l0.length l0) (hc0 : l0.length ≤ c0) (hM : l0.length ≤ 1099511627776)
    (hK : ∀ (p : S37) (W : World), Below w.heap.size w W → Calls Try.prog 19 #[.agg #[.int .i64 p.f0, .int .i64 p.f1], .pointer (some ⟨B, 0, none⟩)] W fun e w' => e = .returned (.bool (g p)) ∧ Below W.heap.size W w') :
    Calls Try.prog 18 #[.slice A0 l0.length c0, .func (.func 19) #[] #[.pointer (some ⟨B, 0, none⟩)]] w fun e w' => e = .returned (.int .i64 (ixf l0 g)) ∧ Below w.heap.size w w' := by
  have hu37 := Try.underlying37
  have HR0 := Aside0.mk hr0
  have HM := Aside0.mk hM
  have HK := Aside0.mk hK
  have HB := Aside0.mk (Below.refl w.heap.size w)
  clear hr0 hM hK
  go_enter Try.func18, Try.ntmps18
  go_wp2
  go_loopg [8] l0.length (fun gh v8 w' => ∃ i : Nat, v8 = .int .i64 i ∧ Aside0 (gh + i = l0.length) ∧ Aside0 (ixf l0 g = ixs l0 g i) ∧ Aside0 (Below w.heap.size w w'))
  case atStart => exact ⟨0, rfl, ⟨by omega⟩, ⟨ixs_zero l0 g⟩, HB⟩
  case round =>
    clear HB
    obtain ⟨i, rfl, HI, HX, HB⟩ := hrel
    cases gk with
    | zero =>
      have hlt : decide ((i : Int) < (l0.length : Int)) = false := decide_eq_false (by have := HI.out; omega)
      have hi : i = l0.length := by have := HI.out; omega
      subst hi
      have hx := HX.out
      rw [ixs_end] at hx
      have HX2 := Aside0.mk hx
      clear hx
      go_wp2
      go_ret
      exact ⟨by rw [HX2.out]; rfl, HB.out⟩
    | succ gko =>
      have hilt : i < l0.length := by have := HI.out; omega
      have hlt : decide ((i : Int) < (l0.length : Int)) = true := decide_eq_true (by omega)
      have p1 : (0 : Int) ≤ (i : Int) := by omega
      have q1 : (i : Int) < (l0.length : Int) := by omega
      obtain ⟨ad1, e1, hx0, hx1⟩ := at_T37 HR0.out (i : Int) p1 q1
      cases e1
      rw [Int.toNat_natCast] at hx0 hx1
      replace hx0 := (HB.out.cell (World.block_lt_of_cell? w _ hx0)).trans hx0
      replace hx1 := (HB.out.cell (World.block_lt_of_cell? w _ hx1)).trans hx1
      replace p1 := eq_true p1
      replace q1 := eq_true q1
      have HLT := Aside0.mk hilt
      have hcall := HK.out (rd_T37 l0 (i : Int)) _ HB.out
      have hxs := HX.out
      rw [ixs_step l0 g i hilt] at hxs
      clear hilt
      by_cases hg : g (rd_T37 l0 (i : Int)) = true
      · rw [hg] at hcall hxs
        rw [if_pos rfl] at hxs
        have HXS := Aside0.mk hxs
        have HCALL := Aside0.mk hcall
        clear hcall hxs hg
        go_wp2_with (first | (go_at_call 19; refine HCALL.out.mono ?_; rintro e w2 ⟨rfl, hb2⟩))
        go_ret
        exact ⟨by rw [HXS.out]; rfl, below_step HB.out hb2⟩
      · rw [Bool.not_eq_true] at hg
        rw [hg] at hcall hxs
        rw [if_neg (by decide)] at hxs
        have HXS := Aside0.mk hxs
        have HCALL := Aside0.mk hcall
        clear hcall hxs hg
        go_wp2_with (first | (go_at_call 19; refine HCALL.out.mono ?_; rintro e w2 ⟨rfl, hb2⟩))
        go_roundg gko
        case measure => omega
        case rel => exact ⟨i + 1, by rw [ix_wrap i (by have := HM.out; have := HLT.out; omega)], ⟨by have := HI.out; omega⟩, HXS, ⟨below_step HB.out hb2⟩⟩

def ledger_Ledger_at.f (a0_0 a0_1 a0_2 : Int) (l0_3 : List S37) (a1 : Int) : Option Int := if l0_3.length ≤ 1099511627776 then some (ixf l0_3 fun p => p.f0 == a1) else none
set_option maxHeartbeats 4000000 in
set_option maxRecDepth 100000 in
theorem ledger_Ledger_at.calls (a0_0 : Int) (a0_1 : Int) (a0_2 : Int) (A0_3 : Option Addr) (c0_3 : Nat) (l0_3 : List (S37)) (a1 : Int) (r : Int) (w : World) (hr0_3 : Kd.C k37 w A0_3 l0_3.length l0_3) (hc0_3 : l0_3.length ≤ c0_3) (h : ledger_Ledger_at.f a0_0 a0_1 a0_2 l0_3 a1 = some r) :
    Calls Try.prog 12 #[.agg #[.int .i64 a0_0, .int .i64 a0_1, .int .i64 a0_2, .slice A0_3 l0_3.length c0_3], .int .i64 a1] w fun e w' => e = .returned (.int .i64 r) ∧ Below w.heap.size w w' := by
  unfold ledger_Ledger_at.f at h
  by_cases hM : l0_3.length ≤ 1099511627776
  case neg => rw [if_neg hM] at h; cases h
  rw [if_pos hM] at h
  obtain rfl := Option.some.inj h
  clear h
  have hu26 := Try.underlying26
  have hu37 := Try.underlying37
  have HR0 := Aside0.mk hr0_3
  have HC0 := Aside0.mk hc0_3
  have HM := Aside0.mk hM
  clear hr0_3 hc0_3 hM
  go_enter Try.func12, Try.ntmps12
  go_wp2_with (first | (go_at_call 18; refine (index_at.calls A0_3 c0_3 l0_3 (w.heap.size + 1) (fun p => p.f0 == a1) _ (Kd.C_alloc (Kd.C_alloc HR0.out _) _) HC0.out HM.out ?_).mono ?_; (· intro p W hb; refine at_fn.calls p _ a1 W ((hb.cell (by rw [World.size_alloc, World.size_alloc]; exact Nat.lt_succ_self _)).trans ?_); (rw [← World.size_alloc w (.cells #[Value.int .i64 a0_0, Value.int .i64 a0_1, Value.int .i64 a0_2, Value.slice A0_3 l0_3.length c0_3] 26)]; exact (Boxed.new _ 3 (.int .i64 a1)).cell)); rintro e w2 ⟨rfl, hb2⟩))
  go_ret
  exact ⟨rfl, below_step (below_alloc (below_alloc (Below.refl _ _) _) _) hb2⟩

end Go.Proofs.Ytjkbdpgeiiphoaa.PAll
