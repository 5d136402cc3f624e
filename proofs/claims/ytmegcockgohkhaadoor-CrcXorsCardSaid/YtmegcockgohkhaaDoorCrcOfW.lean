/- The walk of the law CrcOf, by hand: rows of what came in, handed to the sum (no statement stands here). -/
import Derived.Test.YtmegcockgohkhaaDoorPAllx8
import Derived.Test.YtmegcockgohkhaaDoorPAllx9
import Derived.Deep.RegionHeld3
namespace Go.Proofs.YtmegcockgohkhaaDoor.PAll
open Go.RowKit Go.Proofs.YtmegcockgohkhaaDoorW.PrintWords Go.Proofs.YtmegcockgohkhaaDoorW.PrintLast Go.Proofs.YtmegcockgohkhaaDoorW.PrintMore
attribute [local go_sem] max2_int min2_int max_two min_two max_three min_three max_four min_four
set_option linter.unusedVariables false
set_option linter.unusedSimpArgs false

/-- A row of slices of what came in, made anew, reads as its rows. -/
theorem C_rows (W : World) (rows : List (Option Addr × Nat × List Int)) (hm : rows.length ≤ 9223372036854775807) (h : ∀ r ∈ rows, (Kd.int .u8).C W r.1 r.2.2.length r.2.2 ∧ r.2.2.length ≤ r.2.1) :
    Kd.C (Kd.slice 5 (Kd.int .u8)) (W.alloc (.cells (rows.map fun r => Value.slice r.1 r.2.2.length r.2.1).toArray 22)) (some ⟨W.heap.size, 0, none⟩) rows.length (rows.map fun r => r.2.2) := by
  have hn' : (W.alloc (.cells (rows.map fun r => Value.slice r.1 r.2.2.length r.2.1).toArray 22)).heap[W.heap.size]? = some (.cells (rows.map fun r => Value.slice r.1 r.2.2.length r.2.1).toArray 22 (0, 0)) := World.alloc_heap_new W _
  refine ⟨by simp, hm, fun _ => ⟨_, rfl, fun j p hp => ?_⟩⟩
  rw [List.getElem?_map, Option.map_eq_some_iff] at hp
  obtain ⟨r, hr, rfl⟩ := hp
  obtain ⟨h1, h2⟩ := h r (List.mem_of_getElem? hr)
  refine ⟨[.slice r.1 r.2.2.length r.2.1], rfl, ⟨r.1, r.2.1, rfl, h2, Kd.C_below h1 (below_alloc (Below.refl _ _) _)⟩, fun i u hu => ?_⟩
  rcases i with _ | i
  · simp only [List.getElem?_cons_zero, Option.some.injEq] at hu
    subst hu
    rw [WideShapes.add_plain, show 0 + (j * (Kd.slice 5 (Kd.int .u8)).sz + 0) = j from by rw [show (Kd.slice 5 (Kd.int .u8)).sz = 1 from rfl]; omega]
    unfold World.cell?
    rw [hn']
    simp [hr]
  · simp at hu

set_option maxRecDepth 100000 in
set_option maxHeartbeats 4000000 in
theorem CrcOf_long (A0 : Option Addr) (c0 : Nat) (l0 : List Int) (a1 a2 : Int) (w : World) (hl_ : Half w) (hn : 2000 < l0.length) :
    Calls Tryd.prog 3 #[.slice A0 l0.length c0, .int .u16 a1, .int .u16 a2] w fun e w' => e = .returned (.bool true) ∧ Below w.heap.size w w' := by
  have hd : decide (2000 < l0.length) = true := decide_eq_true hn
  have hd2 : decide ((2000 : Int) < (l0.length : Int)) = true := decide_eq_true (by omega)
  clear hn
  go_enter Tryd.func3, Tryd.ntmps3
  go_wp2_with (first | (go_at_call 9; refine (paternosterlaw02_awake.calls true _ rfl hl_).mono ?_; rintro e w1 ⟨rfl, hb1⟩))
  go_ret
  exact ⟨rfl, hb1⟩

set_option maxRecDepth 100000 in
set_option maxHeartbeats 4000000 in
theorem CrcOf_short (k : Nat) (A0 : Option Addr) (c0 : Nat) (l0 : List Int) (a1 a2 v : Int) (i j : Nat) (w : World) (hr0 : Kd.C (Kd.int .u8) w A0 l0.length l0) (hc0 : l0.length ≤ c0) (hl_ : Half w) (hn : l0.length ≤ 2000)
    (hi : Int.tmod (wrap64 a1) (wrap64 ((l0.length : Int) + 1)) = (i : Int)) (hj : wrap64 ((i : Int) + Int.tmod (wrap64 a2) (wrap64 (wrap64 ((l0.length : Int) - (i : Int)) + 1))) = (j : Int))
    (h1 : i ≤ j) (h2 : j ≤ l0.length) (href : paternosterref02_Of.f k (strOfNums l0) = some v) (ho1 : crc_Of.f [l0] = some v) (ho4 : crc_Of.f [l0.take i, (l0.take j).drop i, [], l0.drop j] = some v) :
    Calls Tryd.prog 3 #[.slice A0 l0.length c0, .int .u16 a1, .int .u16 a2] w fun e w' => e = .returned (.bool true) ∧ Below w.heap.size w w' := by
  have hd : decide (2000 < l0.length) = false := decide_eq_false (by omega)
  have hd2 : decide ((2000 : Int) < (l0.length : Int)) = false := decide_eq_false (by omega)
  have hz1 : (wrap64 ((l0.length : Int) + 1) = 0) = False := eq_false (by unfold wrap64; omega)
  have hz2 : (wrap64 (wrap64 ((l0.length : Int) - (i : Int)) + 1) = 0) = False := eq_false (by unfold wrap64; omega)
  obtain ⟨i0, hi0, _, hsz, _⟩ := info_parts info5
  have hof1 : ∀ (W : World) (N_ : Nat), N_ = W.heap.size → Below w.heap.size w W → Calls Tryd.prog 11 #[.slice (some ⟨N_, 0, none⟩) 1 1] (W.alloc (.cells #[.slice A0 l0.length c0] 22)) fun e w' => e = .returned (.int .u32 v) ∧ Drawn0 (W.alloc (.cells #[.slice A0 l0.length c0] 22)) w' := fun W N_ hN hb => hN ▸
    crc_Of.calls _ 1 [l0] v _ (C_rows W [(A0, c0, l0)] (by simp) (fun r hr => by simp only [List.mem_singleton] at hr; subst hr; exact ⟨Kd.C_below hr0 hb, hc0⟩)) (by simp) ho1 (Half.keep hl_ (below_alloc hb _))
  obtain ⟨hct, hrt, hlt⟩ := print_take_of (P := Tryd.prog) (Value.int .u8) 0 22 5 .i64 Tryd.underlying22 hi0 hsz A0 c0 l0 (i : Int) (by omega) (by omega) hc0
  obtain ⟨Am, hcm, hrm, hlm⟩ := print_mid_of (P := Tryd.prog) (Value.int .u8) 0 22 5 .i64 .i64 Tryd.underlying22 hi0 hsz A0 c0 l0 (i : Int) (j : Int) (by omega) (by omega) (by omega) hc0
  obtain ⟨Ad, hcd, hrd, hld⟩ := print_drop_of (P := Tryd.prog) (Value.int .u8) 0 22 5 .i64 Tryd.underlying22 hi0 hsz A0 c0 l0 (j : Int) (by omega) (by omega) hc0
  have hread := fun W (hb : Below w.heap.size w W) => Kd.reads_of_C (enc := Value.int .u8) (d := (0 : Int)) (h1 := fun _ => rfl) (Kd.C_below hr0 hb)
  have hof4 : ∀ (W : World) (N_ : Nat), N_ = W.heap.size → Below w.heap.size w W → Calls Tryd.prog 11 #[.slice (some ⟨N_, 0, none⟩) 4 4] (W.alloc (.cells #[.slice A0 (l0.take (i : Int).toNat).length c0, .slice Am ((l0.take (j : Int).toNat).drop (i : Int).toNat).length (c0 - (i : Int).toNat), .slice none 0 0, .slice Ad (l0.drop (j : Int).toNat).length (c0 - (j : Int).toNat)] 22)) fun e w' => e = .returned (.int .u32 v) ∧ Drawn0 (W.alloc (.cells #[.slice A0 (l0.take (i : Int).toNat).length c0, .slice Am ((l0.take (j : Int).toNat).drop (i : Int).toNat).length (c0 - (i : Int).toNat), .slice none 0 0, .slice Ad (l0.drop (j : Int).toNat).length (c0 - (j : Int).toNat)] 22)) w' := fun W N_ hN hb => hN ▸
    crc_Of.calls _ 4 [l0.take (i : Int).toNat, (l0.take (j : Int).toNat).drop (i : Int).toNat, [], l0.drop (j : Int).toNat] v _ (C_rows W [(A0, c0, l0.take (i : Int).toNat), (Am, c0 - (i : Int).toNat, (l0.take (j : Int).toNat).drop (i : Int).toNat), (none, 0, []), (Ad, c0 - (j : Int).toNat, l0.drop (j : Int).toNat)] (by simp) (fun r hr => by
      simp only [List.mem_cons, List.not_mem_nil, or_false] at hr
      rcases hr with rfl | rfl | rfl | rfl
      · exact ⟨Kd.C_of_reads (hrt W (hread W hb)), hlt⟩
      · exact ⟨Kd.C_of_reads (hrm W (hread W hb)), hlm⟩
      · exact ⟨Kd.C_nil _ _, Nat.le_refl _⟩
      · exact ⟨Kd.C_of_reads (hrd W (hread W hb)), hld⟩)) (by simp) ho4 (Half.keep hl_ (below_alloc hb _))
  simp only [Int.toNat_natCast, List.length_take, List.length_drop] at hof4
  have HR0 := Aside0.mk hr0
  have HL := Aside0.mk hl_
  have HREF := Aside0.mk href
  have HOF1 := Aside0.mk hof1
  have HOF4 := Aside0.mk hof4
  clear hr0 hl_ href hof1 hof4 ho1 ho4 hrt hlt hrm hlm hrd hld hread hn h1 h2
  go_enter Tryd.func3, Tryd.ntmps3
  go_wp2_with (first
    | (go_at_call 9; refine (paternosterlaw02_awake.calls true _ rfl HL.out).mono ?_; rintro e w1 ⟨rfl, hb1⟩; have HB := Aside0.mk hb1; clear hb1; have hcv := Kd.C_string (P := Tryd.prog) (A := A0) (c := c0) Tryd.underlying22 Tryd.underlying5 Tryd.underlying9 (Kd.C_below HR0.out HB.out))
    | (go_at_call 10; refine (paternosterref02_Of.calls k _ v _ HREF.out).mono ?_; rintro e w2 ⟨rfl, ⟨m2, rfl⟩⟩))
  go_region_held3 (fun w' => Below w.heap.size w w') (repeat (first | exact HB.out | assumption | apply below_alloc | apply pw_below_drewN | apply below_drew1)) (first
    | (go_at_call 11; (with_reducible refine (HOF1.out _ _ ?_ ?_).mono ?_); (· (first | rfl | (simp; done))); (· (repeat (first | exact HB.out | assumption | apply below_alloc | apply pw_below_drewN | apply below_drew1))); rintro e w3 ⟨rfl, ⟨m3, rfl⟩⟩)
    | (go_at_call 11; (with_reducible refine (HOF4.out _ _ ?_ ?_).mono ?_); (· (first | rfl | (simp; done))); (· (repeat (first | exact HB.out | assumption | apply below_alloc | apply pw_below_drewN | apply below_drew1))); rintro e w4 ⟨rfl, ⟨m4, rfl⟩⟩))
  all_goals go_wp2
  all_goals go_ret
  all_goals exact ⟨rfl, by repeat (first | exact HB.out | assumption | apply below_alloc | apply pw_below_drewN | apply below_drew1)⟩
end Go.Proofs.YtmegcockgohkhaaDoor.PAll
