/- Texts of mine, put together (no statement stands here). -/
import Derived.Test.YtbcijmpkmmcdeaaDoorCJTurns15
import Derived.Test.YtbcijmpkmmcdeaaDoorCJTurns9
import Derived.Deep.RegionHeld
import Derived.WalkMore
import Derived.OpenShut
section
namespace Go.Proofs.YtbcijmpkmmcdeaaDoor.SF
open Go.RowKit Go.Sx Go.Proofs.YtbcijmpkmmcdeaaDoor.PAll Go.Proofs.YtbcijmpkmmcdeaaDoorW.PrintWords Go.Proofs.YtbcijmpkmmcdeaaDoorW.PrintLast Go.Proofs.YtbcijmpkmmcdeaaDoorW.PrintMore
set_option linter.unusedVariables false
set_option linter.unusedSimpArgs false
set_option maxRecDepth 100000
theorem same_of {base : Nat} (bu ma cr : Int) (qa qb : Gh) (l : List S51) (w : World) (ha : w.ownsRow base 91 2 (.slice qa.1 l.length qa.2) l.length ((l.map to91).flatMap pc91)) (hb : RowR w qb (l.map to91)) (hl : l.length ≤ 100000) :
    Calls Tryd.prog 18 #[.agg #[.int .i64 bu, .int .i64 ma, .int .i64 cr, .slice qa.1 l.length qa.2], .agg #[.int .i64 bu, .int .i64 ma, .int .i64 cr, .slice qb.1 l.length qb.2]] w fun e w' => e = .returned (.bool true) ∧ Below w.heap.size w w' := by
  have h := same_calls bu ma cr qa qb (l.map to91) w (own91 ha hl) hb (by rw [List.length_map]; exact hl)
  rw [List.length_map] at h
  exact h
end Go.Proofs.YtbcijmpkmmcdeaaDoor.SF
end
section
namespace Go.Proofs.YtbcijmpkmmcdeaaDoor.PAll
open Go.RowKit Go.Proofs.YtbcijmpkmmcdeaaDoorW.PrintWords Go.Proofs.YtbcijmpkmmcdeaaDoorW.PrintLast Go.Proofs.YtbcijmpkmmcdeaaDoorW.PrintMore
attribute [local go_sem] max2_int min2_int max_two min_two max_three min_three max_four min_four
set_option linter.unusedVariables false
set_option linter.unusedSimpArgs false
def paternosterlaw17_few.f (l0 : List (S28)) : Option (Bool) := some (decide ((l0.length : Int) ≤ 100))
set_option maxHeartbeats 8000000 in
set_option maxRecDepth 100000 in
theorem paternosterlaw17_few.calls (A0 : Option Addr) (c0 : Nat) (l0 : List (S28)) (r : Bool) (w : World) (hr0 : Kd.C k28 w A0 l0.length l0) (hc0 : l0.length ≤ c0) (h : paternosterlaw17_few.f l0 = some r) :
    Calls Tryd.prog 14 #[.slice A0 l0.length c0] w fun e w' => e = .returned (.bool r) ∧ Drawn0 w w' := by
  have HR0 := Aside0.mk hr0
  have HC0 := Aside0.mk hc0
  clear hr0 hc0
  have H : (some (decide ((l0.length : Int) ≤ 100))) = some r := h
  clear h
  obtain rfl := Option.some.inj H
  go_enter Tryd.func14, Tryd.ntmps14
  go_wp2
  go_ret
  exact ⟨by first | rfl | (simp; done) | (simp [*]; done), by repeat (first | exact Drawn0.refl _ | apply Drawn0.step)⟩
end Go.Proofs.YtbcijmpkmmcdeaaDoor.PAll
end
section
namespace Go.Proofs.YtbcijmpkmmcdeaaDoor.SF
open Go.RowKit Go.Sx Go.Proofs.YtbcijmpkmmcdeaaDoor.PAll Go.Proofs.YtbcijmpkmmcdeaaDoorW.PrintWords Go.Proofs.YtbcijmpkmmcdeaaDoorW.PrintLast Go.Proofs.YtbcijmpkmmcdeaaDoorW.PrintMore
open Go.Proofs.YtbcijmpkmmcdeaaDoor.PChk (sumP sum_ev)
set_option linter.unusedVariables false
set_option linter.unusedSimpArgs false
set_option maxRecDepth 100000
def RowM (w : World) (q : Gh) (l : List S28) : Prop := l.length ≤ q.2 ∧ Kd.C k28 w q.1 l.length l
theorem RowM.below {w w' : World} {q : Gh} {l : List S28} (h : RowM w q l) (hb : Below w.heap.size w w') : RowM w' q l := ⟨h.1, Kd.C_below h.2 hb⟩
theorem RowM.none (w : World) (q : Gh) : RowM w q [] := ⟨Nat.zero_le _, rfl, by decide, fun h => absurd h (by decide)⟩
theorem RowM.at {w : World} {q : Gh} {l : List S28} {j : Nat} {p : S28} (h : RowM w q l) (hp : l[j]? = some p) : ∃ ad, q.1 = some ad ∧ CellsAt w (ad.add (j * 2)) [.int .i64 p.f0, .int .i64 p.f1] := C28_at h.2 hp
end Go.Proofs.YtbcijmpkmmcdeaaDoor.SF
end
section
namespace Go.Proofs.YtbcijmpkmmcdeaaDoor.PChk
open Go.RowKit Go.Proofs.YtbcijmpkmmcdeaaDoor.PAll Go.Proofs.YtbcijmpkmmcdeaaDoorW.PrintWords Go.Proofs.YtbcijmpkmmcdeaaDoorW.PrintLast Go.Proofs.YtbcijmpkmmcdeaaDoorW.PrintMore
set_option linter.unusedVariables false
set_option linter.unusedSimpArgs false
theorem nodup_few : ∀ (n : Nat) (l : List Int), l.Nodup → (∀ x ∈ l, 0 ≤ x ∧ x < (n : Int)) → l.length ≤ n
  | 0, l, _, h => by
    cases l with
    | nil => exact Nat.le_refl _
    | cons x r => have := h x List.mem_cons_self; omega
  | n + 1, l, hd, h => by
    have h1 := List.length_eq_countP_add_countP (fun x => x == (n : Int)) (l := l)
    have h2 : l.countP (fun x => x == (n : Int)) ≤ 1 := List.nodup_iff_count.1 hd _
    have h3 := nodup_few n (l.filter fun x => !(x == (n : Int))) (hd.filter _) (fun x hx => by
      obtain ⟨hm, hn⟩ := List.mem_filter.1 hx
      have := h x hm
      have hn : x ≠ (n : Int) := by simpa using hn
      omega)
    rw [← List.countP_eq_length_filter] at h3
    have h4 : l.countP (fun x => !(x == (n : Int))) = l.countP (fun a => decide ¬(a == (n : Int)) = true) := by congr 1; funext a; cases a == (n : Int) <;> rfl
    omega
theorem rows64 (l : List S51) (n : Nat) (h : rowsB l n = true) (hn : n ≤ l.length) : n ≤ 64 := by
  have hrow : ∀ i, i < n → rowB l i = true := fun i hi => List.all_eq_true.1 h i (List.mem_range.2 hi)
  have hlen : ((l.take n).map S51.f0).length = n := by rw [List.length_map, List.length_take]; omega
  rw [← hlen]
  refine nodup_few 64 _ ?_ ?_
  · rw [List.nodup_iff_pairwise_ne, List.pairwise_iff_getElem]
    intro i j hi hj hij e
    rw [hlen] at hi hj
    have hr := hrow j hj
    unfold rowB at hr
    rw [rd_T51_nat l j (by omega)] at hr
    simp only [Bool.and_eq_true, Bool.not_eq_true', decide_eq_false_iff_not] at hr
    refine hr.1 ?_
    unfold ixf
    rw [if_pos]
    · omega
    · rw [List.findIdx_lt_length]
      refine ⟨l[i], ?_, ?_⟩
      · rw [List.mem_take_iff_getElem]
        exact ⟨i, by omega, rfl⟩
      · simp only [List.getElem_map, List.getElem_take] at e
        rw [e]; exact beq_self_eq_true _
  · intro x hx
    obtain ⟨p, hp, rfl⟩ := List.mem_map.1 hx
    obtain ⟨i, hi, rfl⟩ := List.mem_iff_getElem.1 hp
    rw [List.length_take] at hi
    have hr := hrow i (by omega)
    unfold rowB at hr
    rw [rd_T51_nat l i (by omega)] at hr
    simp only [Bool.and_eq_true] at hr
    rw [List.getElem_take]
    simpa [knB] using hr.2.1
set_option maxHeartbeats 4000000 in
set_option maxRecDepth 100000 in
theorem CheckL_calls (b m cr : Int) (A0 : Option Addr) (c0 : Nat) (l0 : List S51) (w : World) (hr0 : Kd.C k51 w A0 l0.length l0) (hc0 : l0.length ≤ c0) :
    Calls Tryd.prog 35 #[.agg #[.int .i64 b, .int .i64 m, .int .i64 cr, .slice A0 l0.length c0]] w fun e w' => e = .returned (.bool (chkB b m cr l0)) ∧ Below w.heap.size w w' := by
  have hu32 := Tryd.underlying32
  have hu51 := Tryd.underlying51
  have HR0 := Aside0.mk hr0
  have HC0 := Aside0.mk hc0
  have HL := Aside0.mk (show l0.length ≤ 9223372036854775807 from hr0.2.1)
  clear hr0 hc0
  have HG0 := Aside0.mk (blk_new w (.cells #[.int .i64 b, .int .i64 m, .int .i64 cr, .slice A0 l0.length c0] 32))
  have HB0 := Aside0.mk (below_alloc (Below.refl w.heap.size w) (.cells #[.int .i64 b, .int .i64 m, .int .i64 cr, .slice A0 l0.length c0] 32))
  go_enter Tryd.func35, Tryd.ntmps35
  go_wp2
  go_loopg [9] l0.length (fun g v9 w' => ∃ i : Nat, v9 = .int .i64 i ∧ Aside0 (g + i = l0.length) ∧ Aside0 (∀ p ∈ l0.take i, okP p) ∧ Aside0 (rowsB l0 i = true) ∧ Aside0 (w'.heap[w.heap.size]? = some (.cells #[.int .i64 b, .int .i64 m, .int .i64 cr, .slice A0 l0.length c0] 32 (0, 0))) ∧ Aside0 (Below w.heap.size w w'))
  case atStart => exact ⟨0, rfl, ⟨by omega⟩, ⟨by simp⟩, ⟨rfl⟩, HG0, HB0⟩
  case round =>
    clear HG0 HB0
    obtain ⟨i, rfl, HI, HV, HRB, HG, HB⟩ := hrel
    cases gk with
    | zero =>
      have hlt : decide ((i : Int) < (l0.length : Int)) = false := decide_eq_false (by have := HI.out; omega)
      have hi : i = l0.length := by have := HI.out; omega
      subst hi
      rw [List.take_length] at HV
      go_wp2
      obtain ⟨p1, hp1⟩ : ∃ p, p = pwB b := ⟨_, rfl⟩
      have h1 := pwB_ev b
      rw [← hp1] at h1
      obtain ⟨p2, hp2⟩ : ∃ p, p = pwB m := ⟨_, rfl⟩
      have h2 := pwB_ev m
      rw [← hp2] at h2
      obtain ⟨p3, hp3⟩ : ∃ p, p = pwB cr := ⟨_, rfl⟩
      have h3 := pwB_ev cr
      rw [← hp3] at h3
      have HCK := Aside0.mk (show chkB b m cr l0 = (p1 && (p2 && (p3 && decide (sumP l0 ≤ b)))) by unfold chkB; rw [HRB.out, Bool.true_and, ← hp1, ← hp2, ← hp3])
      clear hp1 hp2 hp3
      have H1 := Aside0.mk h1
      have H2 := Aside0.mk h2
      have H3 := Aside0.mk h3
      have g0 := (blk_cell HG.out 0).trans (rfl : _ = some (Value.int .i64 b))
      have g1 := (blk_cell HG.out 1).trans (rfl : _ = some (Value.int .i64 m))
      have g2 := (blk_cell HG.out 2).trans (rfl : _ = some (Value.int .i64 cr))
      clear h1 h2 h3 hlt
      have HQ := Aside0.mk (fun (x : Int) (r : Bool) (W : World) (h : ledger_power.f x = some r) => (ledger_power.calls x r W h).mono (fun e w' h => (⟨h.1, h.2.out⟩ : e = .returned (.bool r) ∧ ∃ m, w' = W.drewN m)))
      cases p1 with
      | false =>
        go_quiet (first | (go_at_call 61; exact Calls.quiet_of (HQ.out _ _ _ H1.out)))
        go_wp2
        go_ret
        exact ⟨by rw [HCK.out]; first | rfl | simp, by repeat (first | exact HB.out | apply pw_below_drewN | apply below_drew1)⟩
      | true =>
        cases p2 with
        | false =>
          go_quiet (first | (go_at_call 61; exact Calls.quiet_of (HQ.out _ _ _ H1.out)) | (go_at_call 61; exact Calls.quiet_of (HQ.out _ _ _ H2.out)))
          go_wp2
          go_ret
          exact ⟨by rw [HCK.out]; first | rfl | simp, by repeat (first | exact HB.out | apply pw_below_drewN | apply below_drew1)⟩
        | true =>
          cases p3 with
          | false =>
            go_quiet (first | (go_at_call 61; exact Calls.quiet_of (HQ.out _ _ _ H1.out)) | (go_at_call 61; exact Calls.quiet_of (HQ.out _ _ _ H2.out)) | (go_at_call 61; exact Calls.quiet_of (HQ.out _ _ _ H3.out)))
            go_wp2
            go_ret
            exact ⟨by rw [HCK.out]; first | rfl | simp, by repeat (first | exact HB.out | apply pw_below_drewN | apply below_drew1)⟩
          | true =>
            clear g0 g1 g2 HQ
            have g0 : ∀ W : World, Below wr.heap.size wr W → W.cell? ⟨w.heap.size, 0, none⟩ = some (.int .i64 b) := fun W hb => (blk_cell (blk_below HG.out hb) 0).trans rfl
            have g1 : ∀ W : World, Below wr.heap.size wr W → W.cell? ⟨w.heap.size, 1, none⟩ = some (.int .i64 m) := fun W hb => (blk_cell (blk_below HG.out hb) 1).trans rfl
            have g2 : ∀ W : World, Below wr.heap.size wr W → W.cell? ⟨w.heap.size, 2, none⟩ = some (.int .i64 cr) := fun W hb => (blk_cell (blk_below HG.out hb) 2).trans rfl
            have g3 : ∀ W : World, Below wr.heap.size wr W → W.cell? ⟨w.heap.size, 3, none⟩ = some (.slice A0 l0.length c0) := fun W hb => (blk_cell (blk_below HG.out hb) 3).trans rfl
            have HSM := Aside0.mk (sum_ev b m cr l0 HV.out (by have := rows64 l0 _ HRB.out (Nat.le_refl _); omega) (2 * l0.length + 2) (Nat.le_refl _))
            go_region_held (fun w' => Below wr.heap.size wr w') (first | assumption | exact below_step (by assumption) hb5 | (repeat (first | assumption | exact Below.refl _ _ | apply pw_below_drewN | apply below_drew1))) (first
              | (go_at_call 20; refine (ledger_Ledger_Sum.calls (2 * l0.length + 2) b m cr A0 c0 l0 _ _ (Kd.C_below HR0.out (below_step HB.out (by repeat (first | assumption | exact Below.refl _ _ | apply pw_below_drewN | apply below_drew1)))) HC0.out HSM.out).mono ?_; rintro e w5 ⟨rfl, hb5⟩)
              | (go_at_call 61; refine (ledger_power.calls b true _ H1.out).mono ?_; rintro e w' ⟨rfl, ⟨nd, rfl⟩⟩)
              | (go_at_call 61; refine (ledger_power.calls m true _ H2.out).mono ?_; rintro e w' ⟨rfl, ⟨nd, rfl⟩⟩)
              | (go_at_call 61; refine (ledger_power.calls cr true _ H3.out).mono ?_; rintro e w' ⟨rfl, ⟨nd, rfl⟩⟩))
            all_goals go_wp2
            all_goals go_ret
            all_goals exact ⟨by rw [HCK.out]; first | rfl | simp, below_step HB.out (by assumption)⟩
    | succ gko =>
      have hilt : i < l0.length := by have := HI.out; omega
      have hlt : decide ((i : Int) < (l0.length : Int)) = true := decide_eq_true (by omega)
      obtain ⟨ad1, e1, hx0, hx1⟩ := at_T51 HR0.out (i : Int) (by omega) (by omega)
      cases e1
      rw [Int.toNat_natCast] at hx0 hx1
      replace hx0 := (HB.out.cell (World.block_lt_of_cell? w _ hx0)).trans hx0
      replace hx1 := (HB.out.cell (World.block_lt_of_cell? w _ hx1)).trans hx1
      have hpv : (∀ q ∈ l0.take (i + 1), okP q) ↔ (∀ q ∈ l0.take i, okP q) ∧ okP (rd_T51 l0 (i : Int)) := by
        rw [List.take_add_one, List.getElem?_eq_getElem hilt, rd_T51_nat l0 i hilt]
        simp only [List.mem_append, Option.mem_toList, Option.mem_some_iff]
        constructor
        · intro h; exact ⟨fun q hq => h q (.inl hq), h _ (.inr rfl)⟩
        · rintro ⟨h1, h2⟩ q hq
          rcases hq with hq | hq
          · exact h1 q hq
          · first | (rw [← hq]; exact h2) | (rw [hq]; exact h2) | (subst hq; exact h2) | (have := Option.some.inj hq; first | (rw [← this]; exact h2) | (rw [this]; exact h2))
      have hno : rowB l0 i = false → chkB b m cr l0 = false := chkB_no b m cr l0 i hilt
      have hrb : rowsB l0 (i + 1) = (rowsB l0 i && rowB l0 i) := rowsB_succ l0 i
      have hrw : rowB l0 i = (!(decide (0 ≤ ixf (l0.take i) fun q => q.f0 == (rd_T51 l0 (i : Int)).f0)) && (knB (rd_T51 l0 (i : Int)).f0 && pwB (rd_T51 l0 (i : Int)).f1)) := rfl
      generalize rd_T51 l0 (i : Int) = p at hx0 hx1 hpv hrw
      have HPV := Aside0.mk hpv
      have HLT := Aside0.mk hilt
      have p1 : ((0 : Int) ≤ (i : Int)) = True := eq_true (by omega)
      have q1 : ((i : Int) < (l0.length : Int)) = True := eq_true (by omega)
      have g3 := fun o : Obj => (blk_cell (blk_alloc HG.out o) 3).trans (rfl : _ = some (Value.slice (some ad1) l0.length c0))
      have hcut := cut_to (P := Tryd.prog) 30 51 .i64 Tryd.underlying30 fit_i51.choose_spec (some ad1) l0.length c0 (i : Int) (by omega) (by omega) HC0.out
      rw [Int.toNat_natCast] at hcut
      obtain ⟨tw, htw⟩ : ∃ tw, tw = decide (0 ≤ ixf (l0.take i) fun q => q.f0 == p.f0) := ⟨_, rfl⟩
      have hcon : ∀ W : World, Below wr.heap.size wr W → W.cell? ⟨wr.heap.size, 0, none⟩ = some (.int .i64 p.f0) → Calls Tryd.prog 58 #[.slice (some ad1) i c0, .func (.func 59) #[] #[.pointer (some ⟨wr.heap.size, 0, none⟩)]] W fun e w' => e = .returned (.bool tw) ∧ Below W.heap.size W w' := fun W hb hc => by
        have hC := Kd.C_take (Kd.C_below HR0.out (below_step HB.out hb)) (Nat.le_of_lt HLT.out)
        have hlen : (l0.take i).length = i := by rw [List.length_take]; have := HLT.out; omega
        have h := contains.calls (some ad1) c0 (l0.take i) wr.heap.size p.f0 W hC (by rw [hlen]; have := HC0.out; have := HLT.out; omega) (by rw [hlen]; have := rows64 l0 i HRB.out (Nat.le_of_lt HLT.out); omega) hc
        rw [← htw] at h
        rwa [hlen] at h
      have HCON := Aside0.mk hcon
      obtain ⟨kb, hkbe⟩ : ∃ k, k = knB p.f0 := ⟨_, rfl⟩
      obtain ⟨pb, hpbe⟩ : ∃ k, k = pwB p.f1 := ⟨_, rfl⟩
      have hkb := knB_ev p.f0
      have hpb := pwB_ev p.f1
      rw [← hkbe] at hkb
      rw [← hpbe] at hpb
      rw [← htw, ← hkbe, ← hpbe] at hrw
      rw [hrw] at hno hrb
      have HNO := Aside0.mk hno
      have HRB2 := Aside0.mk hrb
      clear hpv hilt hcon htw hkbe hpbe hno hrb hrw
      have HKB := Aside0.mk hkb
      have HPB := Aside0.mk hpb
      have HC1 := Aside0.mk (blk_cell (blk_new wr (.cells #[.int .i64 p.f0, .int .i64 p.f1] 51)) 0)
      clear hkb hpb
      cases tw with
      | true =>
        go_wp2_with (first
          | (go_at_call 58; refine (HCON.out _ (below_alloc (Below.refl _ _) _) HC1.out).mono ?_; rintro e w2 ⟨rfl, hb2⟩; have HB2 := Aside0.mk (below_step (below_alloc HB.out _) hb2); clear hb2))
        go_ret
        exact ⟨by rw [HNO.out (by first | rfl | simp)]; first | rfl | simp, HB2.out⟩
      | false =>
        cases kb with
        | false =>
          go_wp2_with (first
            | (go_at_call 58; refine (HCON.out _ (below_alloc (Below.refl _ _) _) HC1.out).mono ?_; rintro e w2 ⟨rfl, hb2⟩; have HB2 := Aside0.mk (below_step (below_alloc HB.out _) hb2); have HN2 := Aside0.mk (blk_below (blk_new wr _) hb2); clear hb2; have n0 := (blk_cell HN2.out 0).trans (rfl : _ = some (Value.int .i64 p.f0)); have n1 := (blk_cell HN2.out 1).trans (rfl : _ = some (Value.int .i64 p.f1)))
            | (go_at_call 60; refine (ledger_known.calls p.f0 false _ HKB.out).mono ?_; rintro e w' ⟨rfl, ⟨nd, rfl⟩⟩))
          go_ret
          exact ⟨by rw [HNO.out (by first | rfl | simp)]; first | rfl | simp, by repeat (first | exact HB2.out | apply pw_below_drewN | apply below_drew1)⟩
        | true =>
          cases pb with
          | false =>
            go_wp2_with (first
              | (go_at_call 58; refine (HCON.out _ (below_alloc (Below.refl _ _) _) HC1.out).mono ?_; rintro e w2 ⟨rfl, hb2⟩; have HB2 := Aside0.mk (below_step (below_alloc HB.out _) hb2); have HN2 := Aside0.mk (blk_below (blk_new wr _) hb2); clear hb2; have n0 := (blk_cell HN2.out 0).trans (rfl : _ = some (Value.int .i64 p.f0)); have n1 := (blk_cell HN2.out 1).trans (rfl : _ = some (Value.int .i64 p.f1)))
              | (go_at_call 60; refine (ledger_known.calls p.f0 true _ HKB.out).mono ?_; rintro e w' ⟨rfl, ⟨nd, rfl⟩⟩)
              | (go_at_call 61; refine (ledger_power.calls p.f1 false _ HPB.out).mono ?_; rintro e w' ⟨rfl, ⟨nd2, rfl⟩⟩))
            go_ret
            exact ⟨by rw [HNO.out (by first | rfl | simp)]; first | rfl | simp, by repeat (first | exact HB2.out | apply pw_below_drewN | apply below_drew1)⟩
          | true =>
            go_wp2_with (first
              | (go_at_call 58; refine (HCON.out _ (below_alloc (Below.refl _ _) _) HC1.out).mono ?_; rintro e w2 ⟨rfl, hb2⟩; have HB2 := Aside0.mk (below_step (below_alloc HB.out _) hb2); have HN2 := Aside0.mk (blk_below (blk_new wr _) hb2); have HG2 := Aside0.mk (blk_below (blk_alloc HG.out _) hb2); clear hb2; have n0 := (blk_cell HN2.out 0).trans (rfl : _ = some (Value.int .i64 p.f0)); have n1 := (blk_cell HN2.out 1).trans (rfl : _ = some (Value.int .i64 p.f1)))
              | (go_at_call 60; refine (ledger_known.calls p.f0 true _ HKB.out).mono ?_; rintro e w' ⟨rfl, ⟨nd, rfl⟩⟩)
              | (go_at_call 61; refine (ledger_power.calls p.f1 true _ HPB.out).mono ?_; rintro e w' ⟨rfl, ⟨nd2, rfl⟩⟩))
            go_roundg gko
            case measure => omega
            case rel => exact ⟨i + 1, by rw [wi i (by have := rows64 l0 i HRB.out (Nat.le_of_lt HLT.out); omega)], ⟨by have := HI.out; omega⟩, ⟨HPV.out.2 ⟨HV.out, power_is _ HPB.out⟩⟩, ⟨by rw [HRB2.out, HRB.out]; rfl⟩, ⟨by repeat (first | exact HG2.out | apply blk_drewN | apply blk_drew)⟩, ⟨by repeat (first | exact HB2.out | apply pw_below_drewN | apply below_drew1)⟩⟩
end Go.Proofs.YtbcijmpkmmcdeaaDoor.PChk
end
