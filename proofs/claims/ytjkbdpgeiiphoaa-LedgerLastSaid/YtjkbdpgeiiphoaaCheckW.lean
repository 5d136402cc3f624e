/- The walk of ledger.Check, by hand: what is checked has peaks that may be (no statement stands here). -/
import Derived.Test.YtjkbdpgeiiphoaaSum
import Derived.WalkMore
namespace Go.Proofs.Ytjkbdpgeiiphoaa.PAll
open Go.RowKit Go.Proofs.YtjkbdpgeiiphoaaW.PrintWords Go.Proofs.YtjkbdpgeiiphoaaW.PrintLast Go.Proofs.YtjkbdpgeiiphoaaW.PrintMore
set_option linter.unusedVariables false
set_option linter.unusedSimpArgs false
set_option maxHeartbeats 4000000 in
set_option maxRecDepth 100000 in
theorem ck_fn.calls (p : S37) (B : Nat) (car : Int) (W : World) (hB : W.cell? ⟨B, 0, none⟩ = some (.int .i64 car)) :
    Calls Try.prog 16 #[.agg #[.int .i64 p.f0, .int .i64 p.f1], .pointer (some ⟨B, 0, none⟩)] W fun e w' => e = .returned (.bool (p.f0 == car)) ∧ Below W.heap.size W w' := by
  have hu37 := Try.underlying37
  have hB2 := fun o : Obj => (World.cell?_alloc_lt W o ⟨B, 0, none⟩ (World.block_lt_of_cell? W _ hB)).trans hB
  go_enter Try.func16, Try.ntmps16
  go_wp2
  go_ret
  exact ⟨rfl, by repeat (first | exact Below.refl _ _ | apply below_alloc | apply below_drew1 | apply pw_below_drewN)⟩
set_option maxHeartbeats 4000000 in
set_option maxRecDepth 100000 in
theorem index_ck.calls (A0 : Option Addr) (c0 : Nat) (l0 : List S37) (B : Nat) (g : S37 → Bool) (w : World) (hr0 : Kd.C k37 w A0 l0.length l0) (hc0 : l0.length ≤ c0) (hM : l0.length ≤ 1099511627776)
    (hK : ∀ (p : S37) (W : World), Below w.heap.size w W → Calls Try.prog 16 #[.agg #[.int .i64 p.f0, .int .i64 p.f1], .pointer (some ⟨B, 0, none⟩)] W fun e w' => e = .returned (.bool (g p)) ∧ Below W.heap.size W w') :
    Calls Try.prog 18 #[.slice A0 l0.length c0, .func (.func 16) #[] #[.pointer (some ⟨B, 0, none⟩)]] w fun e w' => e = .returned (.int .i64 (ixf l0 g)) ∧ Below w.heap.size w w' := by
  have hu37 := Try.underlying37
  have HR0 := Aside0.mk hr0
  have HM := Aside0.mk hM
  have HK := Aside0.mk hK
  have HB := Aside0.mk (Below.refl w.heap.size w)
  clear hr0 hM hK
  go_enter Try.func18, Try.ntmps18
  go_wp2
  go_loopg [8] l0.length (fun gh v8 w' => ∃ i : Nat, v8 = .int .i64 i ∧ Aside0 (gh + i = l0.length) ∧ Aside0 (ixf l0 g = ixs l0 g i) ∧ Aside0 (Below w.heap.size w w'))
  case atStart => exact ⟨0, rfl, ⟨by omega⟩, ⟨ixs_zero l0 g⟩, HB⟩
  case round =>
    clear HB
    obtain ⟨i, rfl, HI, HX, HB⟩ := hrel
    cases gk with
    | zero =>
      have hlt : decide ((i : Int) < (l0.length : Int)) = false := decide_eq_false (by have := HI.out; omega)
      have hi : i = l0.length := by have := HI.out; omega
      subst hi
      have hx := HX.out
      rw [ixs_end] at hx
      have HX2 := Aside0.mk hx
      clear hx
      go_wp2
      go_ret
      exact ⟨by rw [HX2.out]; rfl, HB.out⟩
    | succ gko =>
      have hilt : i < l0.length := by have := HI.out; omega
      have hlt : decide ((i : Int) < (l0.length : Int)) = true := decide_eq_true (by omega)
      have p1 : (0 : Int) ≤ (i : Int) := by omega
      have q1 : (i : Int) < (l0.length : Int) := by omega
      obtain ⟨ad1, e1, hx0, hx1⟩ := at_T37 HR0.out (i : Int) p1 q1
      cases e1
      rw [Int.toNat_natCast] at hx0 hx1
      replace hx0 := (HB.out.cell (World.block_lt_of_cell? w _ hx0)).trans hx0
      replace hx1 := (HB.out.cell (World.block_lt_of_cell? w _ hx1)).trans hx1
      replace p1 := eq_true p1
      replace q1 := eq_true q1
      have HLT := Aside0.mk hilt
      have hcall := HK.out (rd_T37 l0 (i : Int)) _ HB.out
      have hxs := HX.out
      rw [ixs_step l0 g i hilt] at hxs
      clear hilt
      by_cases hg : g (rd_T37 l0 (i : Int)) = true
      · rw [hg] at hcall hxs
        rw [if_pos rfl] at hxs
        have HXS := Aside0.mk hxs
        have HCALL := Aside0.mk hcall
        clear hcall hxs hg
        go_wp2_with (first | (go_at_call 16; refine HCALL.out.mono ?_; rintro e w2 ⟨rfl, hb2⟩))
        go_ret
        exact ⟨by rw [HXS.out]; rfl, below_step HB.out hb2⟩
      · rw [Bool.not_eq_true] at hg
        rw [hg] at hcall hxs
        rw [if_neg (by decide)] at hxs
        have HXS := Aside0.mk hxs
        have HCALL := Aside0.mk hcall
        clear hcall hxs hg
        go_wp2_with (first | (go_at_call 16; refine HCALL.out.mono ?_; rintro e w2 ⟨rfl, hb2⟩))
        go_roundg gko
        case measure => omega
        case rel => exact ⟨i + 1, by rw [ix_wrap i (by have := HM.out; have := HLT.out; omega)], ⟨by have := HI.out; omega⟩, HXS, ⟨below_step HB.out hb2⟩⟩

theorem contains.calls (A0 : Option Addr) (c0 : Nat) (l0 : List S37) (B : Nat) (car : Int) (w : World) (hr0 : Kd.C k37 w A0 l0.length l0) (hc0 : l0.length ≤ c0) (hM : l0.length ≤ 1099511627776) (hB : w.cell? ⟨B, 0, none⟩ = some (.int .i64 car)) :
    Calls Try.prog 15 #[.slice A0 l0.length c0, .func (.func 16) #[] #[.pointer (some ⟨B, 0, none⟩)]] w fun e w' => e = .returned (.bool (decide (0 ≤ ixf l0 fun p => p.f0 == car))) ∧ Below w.heap.size w w' := by
  have h := index_ck.calls A0 c0 l0 B (fun p => p.f0 == car) w hr0 hc0 hM (fun p W hb => ck_fn.calls p B car W ((hb.cell (World.block_lt_of_cell? w _ hB)).trans hB))
  go_enter Try.func15, Try.ntmps15
  go_wp2_with (first | (go_at_call 18; refine h.mono ?_; rintro e w2 ⟨rfl, hb2⟩))
  go_ret
  exact ⟨rfl, hb2⟩
theorem known_some (x : Int) : ∃ r, ledger_known.f x = some r := by unfold ledger_known.f; split <;> exact ⟨_, rfl⟩
theorem power_some (x : Int) : ∃ r, ledger_power.f x = some r := by unfold ledger_power.f; split <;> exact ⟨_, rfl⟩
theorem power_is (x : Int) (h : ledger_power.f x = some true) : 0 ≤ x ∧ x ≤ 1048576 := by
  unfold ledger_power.f at h
  split at h
  · simp at h; omega
  · simp at h
def okP (p : S37) : Prop := 0 ≤ p.f1 ∧ p.f1 ≤ 1048576
set_option maxHeartbeats 4000000 in
set_option maxRecDepth 100000 in
theorem Check_calls (b m cr : Int) (A0 : Option Addr) (c0 : Nat) (l0 : List S37) (w : World) (hr0 : Kd.C k37 w A0 l0.length l0) (hc0 : l0.length ≤ c0) (hl : l0.length ≤ 1000) :
    Calls Try.prog 7 #[.agg #[.int .i64 b, .int .i64 m, .int .i64 cr, .slice A0 l0.length c0]] w fun e w' => (∃ r : Bool, e = .returned (.bool r) ∧ (r = true → ∀ p ∈ l0, okP p)) ∧ Below w.heap.size w w' := by
  have hu26 := Try.underlying26
  have hu37 := Try.underlying37
  have HR0 := Aside0.mk hr0
  have HC0 := Aside0.mk hc0
  have HL := Aside0.mk hl
  clear hr0 hc0 hl
  have HG0 := Aside0.mk (blk_new w (.cells #[.int .i64 b, .int .i64 m, .int .i64 cr, .slice A0 l0.length c0] 26))
  have HB0 := Aside0.mk (below_alloc (Below.refl w.heap.size w) (.cells #[.int .i64 b, .int .i64 m, .int .i64 cr, .slice A0 l0.length c0] 26))
  go_enter Try.func7, Try.ntmps7
  go_wp2
  go_loopg [9] l0.length (fun g v9 w' => ∃ i : Nat, v9 = .int .i64 i ∧ Aside0 (g + i = l0.length) ∧ Aside0 (∀ p ∈ l0.take i, okP p) ∧ Aside0 (w'.heap[w.heap.size]? = some (.cells #[.int .i64 b, .int .i64 m, .int .i64 cr, .slice A0 l0.length c0] 26 (0, 0))) ∧ Aside0 (Below w.heap.size w w'))
  case atStart => exact ⟨0, rfl, ⟨by omega⟩, ⟨by simp⟩, HG0, HB0⟩
  case round =>
    clear HG0 HB0
    obtain ⟨i, rfl, HI, HV, HG, HB⟩ := hrel
    cases gk with
    | zero =>
      have hlt : decide ((i : Int) < (l0.length : Int)) = false := decide_eq_false (by have := HI.out; omega)
      have hi : i = l0.length := by have := HI.out; omega
      subst hi
      rw [List.take_length] at HV
      go_wp2
      obtain ⟨p1, h1⟩ := power_some b
      obtain ⟨p2, h2⟩ := power_some m
      obtain ⟨p3, h3⟩ := power_some cr
      have H1 := Aside0.mk h1
      have H2 := Aside0.mk h2
      have H3 := Aside0.mk h3
      have g0 := (blk_cell HG.out 0).trans (rfl : _ = some (Value.int .i64 b))
      have g1 := (blk_cell HG.out 1).trans (rfl : _ = some (Value.int .i64 m))
      have g2 := (blk_cell HG.out 2).trans (rfl : _ = some (Value.int .i64 cr))
      clear h1 h2 h3 hlt
      have HQ := Aside0.mk (fun (x : Int) (r : Bool) (W : World) (h : ledger_power.f x = some r) => (ledger_power.calls x r W h).mono (fun e w' h => (⟨h.1, h.2.out⟩ : e = .returned (.bool r) ∧ ∃ m, w' = W.drewN m)))
      cases p1 with
      | false =>
        go_quiet (first | (go_at_call 11; exact Calls.quiet_of (HQ.out _ _ _ H1.out)))
        go_wp2
        go_ret
        exact ⟨⟨false, rfl, fun h => by cases h⟩, by repeat (first | exact HB.out | apply pw_below_drewN | apply below_drew1)⟩
      | true =>
        cases p2 with
        | false =>
          go_quiet (first | (go_at_call 11; exact Calls.quiet_of (HQ.out _ _ _ H1.out)) | (go_at_call 11; exact Calls.quiet_of (HQ.out _ _ _ H2.out)))
          go_wp2
          go_ret
          exact ⟨⟨false, rfl, fun h => by cases h⟩, by repeat (first | exact HB.out | apply pw_below_drewN | apply below_drew1)⟩
        | true =>
          cases p3 with
          | false =>
            go_quiet (first | (go_at_call 11; exact Calls.quiet_of (HQ.out _ _ _ H1.out)) | (go_at_call 11; exact Calls.quiet_of (HQ.out _ _ _ H2.out)) | (go_at_call 11; exact Calls.quiet_of (HQ.out _ _ _ H3.out)))
            go_wp2
            go_ret
            exact ⟨⟨false, rfl, fun h => by cases h⟩, by repeat (first | exact HB.out | apply pw_below_drewN | apply below_drew1)⟩
          | true =>
            clear g0 g1 g2 HQ
            have g0 : ∀ W : World, Below wr.heap.size wr W → W.cell? ⟨w.heap.size, 0, none⟩ = some (.int .i64 b) := fun W hb => (blk_cell (blk_below HG.out hb) 0).trans rfl
            have g1 : ∀ W : World, Below wr.heap.size wr W → W.cell? ⟨w.heap.size, 1, none⟩ = some (.int .i64 m) := fun W hb => (blk_cell (blk_below HG.out hb) 1).trans rfl
            have g2 : ∀ W : World, Below wr.heap.size wr W → W.cell? ⟨w.heap.size, 2, none⟩ = some (.int .i64 cr) := fun W hb => (blk_cell (blk_below HG.out hb) 2).trans rfl
            have g3 : ∀ W : World, Below wr.heap.size wr W → W.cell? ⟨w.heap.size, 3, none⟩ = some (.slice A0 l0.length c0) := fun W hb => (blk_cell (blk_below HG.out hb) 3).trans rfl
            have HSM := Aside0.mk (sum_ev b m cr l0 HV.out (by have := HL.out; omega) (2 * l0.length + 2) (Nat.le_refl _))
            go_region_held (fun w' => Below wr.heap.size wr w') (first | assumption | exact below_step (by assumption) hb5 | (repeat (first | assumption | exact Below.refl _ _ | apply pw_below_drewN | apply below_drew1))) (first
              | (go_at_call 9; refine (ledger_Ledger_Sum.calls (2 * l0.length + 2) b m cr A0 c0 l0 _ _ (Kd.C_below HR0.out (below_step HB.out (by repeat (first | assumption | exact Below.refl _ _ | apply pw_below_drewN | apply below_drew1)))) HC0.out HSM.out).mono ?_; rintro e w5 ⟨rfl, hb5⟩)
              | (go_at_call 11; refine (ledger_power.calls b true _ H1.out).mono ?_; rintro e w' ⟨rfl, ⟨nd, rfl⟩⟩)
              | (go_at_call 11; refine (ledger_power.calls m true _ H2.out).mono ?_; rintro e w' ⟨rfl, ⟨nd, rfl⟩⟩)
              | (go_at_call 11; refine (ledger_power.calls cr true _ H3.out).mono ?_; rintro e w' ⟨rfl, ⟨nd, rfl⟩⟩))
            all_goals go_wp2
            all_goals go_ret
            all_goals exact ⟨⟨_, rfl, fun _ => HV.out⟩, below_step HB.out (by assumption)⟩
    | succ gko =>
      have hilt : i < l0.length := by have := HI.out; omega
      have hlt : decide ((i : Int) < (l0.length : Int)) = true := decide_eq_true (by omega)
      obtain ⟨ad1, e1, hx0, hx1⟩ := at_T37 HR0.out (i : Int) (by omega) (by omega)
      cases e1
      rw [Int.toNat_natCast] at hx0 hx1
      replace hx0 := (HB.out.cell (World.block_lt_of_cell? w _ hx0)).trans hx0
      replace hx1 := (HB.out.cell (World.block_lt_of_cell? w _ hx1)).trans hx1
      have hpv : (∀ q ∈ l0.take (i + 1), okP q) ↔ (∀ q ∈ l0.take i, okP q) ∧ okP (rd_T37 l0 (i : Int)) := by
        rw [List.take_add_one, List.getElem?_eq_getElem hilt, rd_T37_nat l0 i hilt]
        simp only [List.mem_append, Option.mem_toList, Option.mem_some_iff]
        constructor
        · intro h; exact ⟨fun q hq => h q (.inl hq), h _ (.inr rfl)⟩
        · rintro ⟨h1, h2⟩ q hq
          rcases hq with hq | hq
          · exact h1 q hq
          · first | (rw [← hq]; exact h2) | (rw [hq]; exact h2) | (subst hq; exact h2) | (have := Option.some.inj hq; first | (rw [← this]; exact h2) | (rw [this]; exact h2))
      generalize rd_T37 l0 (i : Int) = p at hx0 hx1 hpv
      have HPV := Aside0.mk hpv
      have HLT := Aside0.mk hilt
      have p1 : ((0 : Int) ≤ (i : Int)) = True := eq_true (by omega)
      have q1 : ((i : Int) < (l0.length : Int)) = True := eq_true (by omega)
      have g3 := fun o : Obj => (blk_cell (blk_alloc HG.out o) 3).trans (rfl : _ = some (Value.slice (some ad1) l0.length c0))
      have hcut := cut_to (P := Try.prog) 24 37 .i64 Try.underlying24 fit_i37.choose_spec (some ad1) l0.length c0 (i : Int) (by omega) (by omega) HC0.out
      rw [Int.toNat_natCast] at hcut
      obtain ⟨tw, htw⟩ : ∃ tw, tw = decide (0 ≤ ixf (l0.take i) fun q => q.f0 == p.f0) := ⟨_, rfl⟩
      have hcon : ∀ W : World, Below wr.heap.size wr W → W.cell? ⟨wr.heap.size, 0, none⟩ = some (.int .i64 p.f0) → Calls Try.prog 15 #[.slice (some ad1) i c0, .func (.func 16) #[] #[.pointer (some ⟨wr.heap.size, 0, none⟩)]] W fun e w' => e = .returned (.bool tw) ∧ Below W.heap.size W w' := fun W hb hc => by
        have hC := Kd.C_take (Kd.C_below HR0.out (below_step HB.out hb)) (Nat.le_of_lt HLT.out)
        have hlen : (l0.take i).length = i := by rw [List.length_take]; have := HLT.out; omega
        have h := contains.calls (some ad1) c0 (l0.take i) wr.heap.size p.f0 W hC (by rw [hlen]; have := HC0.out; have := HLT.out; omega) (by rw [hlen]; have := HL.out; have := HLT.out; omega) hc
        rw [← htw] at h
        rwa [hlen] at h
      have HCON := Aside0.mk hcon
      clear hpv hilt hcon htw
      obtain ⟨kb, hkb⟩ := known_some p.f0
      obtain ⟨pb, hpb⟩ := power_some p.f1
      have HKB := Aside0.mk hkb
      have HPB := Aside0.mk hpb
      have HC1 := Aside0.mk (blk_cell (blk_new wr (.cells #[.int .i64 p.f0, .int .i64 p.f1] 37)) 0)
      clear hkb hpb
      cases tw with
      | true =>
        go_wp2_with (first
          | (go_at_call 15; refine (HCON.out _ (below_alloc (Below.refl _ _) _) HC1.out).mono ?_; rintro e w2 ⟨rfl, hb2⟩; have HB2 := Aside0.mk (below_step (below_alloc HB.out _) hb2); clear hb2))
        go_ret
        exact ⟨⟨false, rfl, fun h => by cases h⟩, HB2.out⟩
      | false =>
        cases kb with
        | false =>
          go_wp2_with (first
            | (go_at_call 15; refine (HCON.out _ (below_alloc (Below.refl _ _) _) HC1.out).mono ?_; rintro e w2 ⟨rfl, hb2⟩; have HB2 := Aside0.mk (below_step (below_alloc HB.out _) hb2); have HN2 := Aside0.mk (blk_below (blk_new wr _) hb2); clear hb2; have n0 := (blk_cell HN2.out 0).trans (rfl : _ = some (Value.int .i64 p.f0)); have n1 := (blk_cell HN2.out 1).trans (rfl : _ = some (Value.int .i64 p.f1)))
            | (go_at_call 10; refine (ledger_known.calls p.f0 false _ HKB.out).mono ?_; rintro e w' ⟨rfl, ⟨nd, rfl⟩⟩))
          go_ret
          exact ⟨⟨false, rfl, fun h => by cases h⟩, by repeat (first | exact HB2.out | apply pw_below_drewN | apply below_drew1)⟩
        | true =>
          cases pb with
          | false =>
            go_wp2_with (first
              | (go_at_call 15; refine (HCON.out _ (below_alloc (Below.refl _ _) _) HC1.out).mono ?_; rintro e w2 ⟨rfl, hb2⟩; have HB2 := Aside0.mk (below_step (below_alloc HB.out _) hb2); have HN2 := Aside0.mk (blk_below (blk_new wr _) hb2); clear hb2; have n0 := (blk_cell HN2.out 0).trans (rfl : _ = some (Value.int .i64 p.f0)); have n1 := (blk_cell HN2.out 1).trans (rfl : _ = some (Value.int .i64 p.f1)))
              | (go_at_call 10; refine (ledger_known.calls p.f0 true _ HKB.out).mono ?_; rintro e w' ⟨rfl, ⟨nd, rfl⟩⟩)
              | (go_at_call 11; refine (ledger_power.calls p.f1 false _ HPB.out).mono ?_; rintro e w' ⟨rfl, ⟨nd2, rfl⟩⟩))
            go_ret
            exact ⟨⟨false, rfl, fun h => by cases h⟩, by repeat (first | exact HB2.out | apply pw_below_drewN | apply below_drew1)⟩
          | true =>
            go_wp2_with (first
              | (go_at_call 15; refine (HCON.out _ (below_alloc (Below.refl _ _) _) HC1.out).mono ?_; rintro e w2 ⟨rfl, hb2⟩; have HB2 := Aside0.mk (below_step (below_alloc HB.out _) hb2); have HN2 := Aside0.mk (blk_below (blk_new wr _) hb2); have HG2 := Aside0.mk (blk_below (blk_alloc HG.out _) hb2); clear hb2; have n0 := (blk_cell HN2.out 0).trans (rfl : _ = some (Value.int .i64 p.f0)); have n1 := (blk_cell HN2.out 1).trans (rfl : _ = some (Value.int .i64 p.f1)))
              | (go_at_call 10; refine (ledger_known.calls p.f0 true _ HKB.out).mono ?_; rintro e w' ⟨rfl, ⟨nd, rfl⟩⟩)
              | (go_at_call 11; refine (ledger_power.calls p.f1 true _ HPB.out).mono ?_; rintro e w' ⟨rfl, ⟨nd2, rfl⟩⟩))
            go_roundg gko
            case measure => omega
            case rel => exact ⟨i + 1, by rw [wi i (by have := HL.out; have := HLT.out; omega)], ⟨by have := HI.out; omega⟩, ⟨HPV.out.2 ⟨HV.out, power_is _ HPB.out⟩⟩, ⟨by repeat (first | exact HG2.out | apply blk_drewN | apply blk_drew)⟩, ⟨by repeat (first | exact HB2.out | apply pw_below_drewN | apply below_drew1)⟩⟩
end Go.Proofs.Ytjkbdpgeiiphoaa.PAll
