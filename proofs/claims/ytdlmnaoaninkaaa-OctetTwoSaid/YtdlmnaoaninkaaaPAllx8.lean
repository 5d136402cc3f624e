-- Written by myprint.py: the kit's print.py over this seat's translation, with contracts of my own.
import Derived.Test.YtdlmnaoaninkaaaPAllx0
import Derived.Test.YtdlmnaoaninkaaaPAllx2
import Derived.Test.YtdlmnaoaninkaaaPAllx4
import Derived.Test.YtdlmnaoaninkaaaPAllx6
import Derived.Test.YtdlmnaoaninkaaaPAllx7
namespace Go.Proofs.Ytdlmnaoaninkaaa.PAll
open Go.RowKit Go.Proofs.YtdlmnaoaninkaaaW.PrintWords Go.Proofs.YtdlmnaoaninkaaaW.PrintLast Go.Proofs.YtdlmnaoaninkaaaW.PrintMore
attribute [local go_sem] max2_int min2_int max_two min_two max_three min_three max_four min_four   -- for this text's walks alone
set_option linter.unusedVariables false
set_option linter.unusedSimpArgs false

/-! ### paternosterlaw01_awake: function 12 -/

/-- A literal row reads as its elements, whatever of it is marked. -/
theorem C_lit (k : IntKind) (xs : List Int) (W : World) (e : Nat) (fr : Nat × Nat) (hm : xs.length ≤ 9223372036854775807) : Kd.C (Kd.int k) (W.alloc (.cells (nums k xs).toArray e fr)) (some ⟨W.heap.size, 0, none⟩) xs.length xs := by
  refine ⟨rfl, hm, fun _ => ⟨_, rfl, fun j p hp => ⟨[.int k p], rfl, rfl, fun i u hu => ?_⟩⟩⟩
  rcases i with _ | i
  · simp only [List.getElem?_cons_zero, Option.some.injEq] at hu
    subst hu
    rw [show j * (Kd.int k).sz + 0 = j from by simp [Kd.int, Kd.scalar], WideShapes.add_plain]
    have hn : (W.alloc (.cells (nums k xs).toArray e fr)).heap[W.heap.size]? = some (.cells (nums k xs).toArray e fr) := World.alloc_heap_new W _
    unfold World.cell?
    rw [hn]
    simp [nums, hp]
  · simp at hu

theorem awk_rows (W : World) : Kd.C (Kd.slice 5 (Kd.int .u8)) ((W.alloc (.cells #[.int .u8 97] 5 (1, 2))).alloc (.cells #[.slice (some ⟨W.heap.size, 0, none⟩) 1 1, .slice none 0 0] 26)) (some ⟨W.heap.size + 1, 0, none⟩) 2 [[97], []] := by
  have hn : ((W.alloc (.cells #[.int .u8 97] 5 (1, 2))).alloc (.cells #[.slice (some ⟨W.heap.size, 0, none⟩) 1 1, .slice none 0 0] 26)).heap[W.heap.size + 1]? = some (.cells #[.slice (some ⟨W.heap.size, 0, none⟩) 1 1, .slice none 0 0] 26 (0, 0)) := by
    have := World.alloc_heap_new (W.alloc (.cells #[.int .u8 97] 5 (1, 2))) (.cells #[.slice (some ⟨W.heap.size, 0, none⟩) 1 1, .slice none 0 0] 26)
    rwa [World.size_alloc] at this
  refine ⟨rfl, by decide, fun _ => ⟨_, rfl, fun j p hp => ?_⟩⟩
  rcases j with _ | _ | j
  · simp only [List.getElem?_cons_zero, Option.some.injEq] at hp
    subst hp
    refine ⟨[.slice (some ⟨W.heap.size, 0, none⟩) 1 1], rfl, ⟨_, 1, rfl, by decide, Kd.C_below (C_lit .u8 [97] W 5 (1, 2) (by decide)) (below_alloc (Below.refl _ _) _)⟩, fun i u hu => ?_⟩
    rcases i with _ | i
    · simp only [List.getElem?_cons_zero, Option.some.injEq] at hu
      subst hu
      rw [WideShapes.add_plain]; unfold World.cell?; rw [hn]; rfl
    · simp at hu
  · simp only [Nat.zero_add, List.getElem?_cons_succ, List.getElem?_cons_zero, Option.some.injEq] at hp
    subst hp
    refine ⟨[.slice none 0 0], rfl, ⟨none, 0, rfl, by decide, Kd.C_nil _ _⟩, fun i u hu => ?_⟩
    rcases i with _ | i
    · simp only [List.getElem?_cons_zero, Option.some.injEq] at hu
      subst hu
      rw [WideShapes.add_plain]; unfold World.cell?; rw [hn]; rfl
    · simp at hu
  · simp at hp

set_option maxRecDepth 100000 in
set_option maxHeartbeats 4000000 in
theorem awake_true (w : World) : Calls Try.prog 12 #[] w fun e w' => e = .returned (.bool true) ∧ Below w.heap.size w w' := by
  have HB := Aside0.mk (Below.refl w.heap.size w)
  have hput : ∀ W : World, Calls Try.prog 14 #[.int .i64 2, .slice (some ⟨W.heap.size, 0, none⟩) 2 2] (W.alloc (.cells #[.int .u64 258, .int .u64 1] 25)) _ := fun W => octet_Put.calls 10 2 _ 2 [258, 1] [2, 1, 1, 0] _ (C_lit .u64 [258, 1] W 25 (0, 0) (by decide)) (by decide) (by decide +kernel)
  have kc := fun (W : World) (C : Array Value) (n c : Nat) => Go.Lib.run_convert_bytes_const (P := Try.prog) W 26 5 C n c Try.underlying26 Try.underlying5
  go_enter Try.func12, Try.ntmps12
  go_wp2_with (first
    | (go_at_call 14; refine (hput _).mono ?_; rintro e w1 ⟨v1, rfl, ho1, hb1⟩; obtain ⟨A1, c1, rfl⟩ := Kd.R_slice ho1; have HO1 := Aside0.mk ho1; have HB1 := Aside0.mk ((below_alloc HB.out _).trans (hb1.mono (by simp))); have h1s : w.heap.size ≤ w1.heap.size := below_size HB1.out; clear ho1 hb1 HB)
    | (go_at_call 15; refine (octet_Get.calls 2 _ _ [2, 1, 1, 0] [258, 1] 0 _ (Kd.R_reads' HO1.out).2.2 (Kd.R_reads' HO1.out).2.1 (by decide +kernel)).mono ?_; rintro e w2 ⟨v2, rfl, ho2, hb2⟩; obtain ⟨A2, c2, rfl⟩ := Kd.R_slice ho2; have HO2 := Aside0.mk ho2; have HO1' := Aside0.mk (Kd.R_below HO1.out hb2); have HB2 := Aside0.mk (HB1.out.trans (hb2.mono h1s)); have h2s : w.heap.size ≤ w2.heap.size := below_size HB2.out; clear ho2 hb2 HB1 HO1)
    | (go_at_call 20; refine (octet_Join.calls 10 _ 2 [[97], []] [1, 0, 97, 0, 0] _ (awk_rows _) (by decide) (by decide +kernel)).mono ?_; rintro e w3 ⟨v3, rfl, ho3, hb3⟩; obtain ⟨A3, c3, rfl⟩ := Kd.R_slice ho3; have HO3 := Aside0.mk ho3; have hbb := (below_alloc (below_alloc (Below.refl w2.heap.size w2) _) _).trans (hb3.mono (by simp; omega)); have HO2' := Aside0.mk (Kd.R_below HO2.out hbb); have HO1'' := Aside0.mk (Kd.R_below HO1'.out hbb); have HB3 := Aside0.mk (HB2.out.trans (hbb.mono h2s)); have h3s : w.heap.size ≤ w3.heap.size := below_size HB3.out; clear ho3 hb3 hbb HB2 HO1' HO2)
    | (go_at_call 18; refine (octet_Part.calls _ _ [1, 0, 97, 0, 0] [[97], []] 0 _ (Kd.R_reads' HO3.out).2.2 (Kd.R_reads' HO3.out).2.1 (by decide +kernel)).mono ?_; rintro e w4 ⟨v4, rfl, ho4, hb4⟩; obtain ⟨A4, c4, rfl⟩ := Kd.N_slice ho4; have HB4 := Aside0.mk (HB3.out.trans (hb4.mono h3s)); have cv1 : (convert 26 9 (.slice A1 4 c1)).run Try.prog w4 = .ok (.string ⟨#[2, 1, 1, 0]⟩) w4 := own_string (P := Try.prog) Try.underlying26 Try.underlying5 Try.underlying9 (Kd.own_of_R (Kd.R_below HO1''.out hb4)); have cv3 : (convert 26 9 (.slice A3 5 c3)).run Try.prog w4 = .ok (.string ⟨#[1, 0, 97, 0, 0]⟩) w4 := own_string (P := Try.prog) Try.underlying26 Try.underlying5 Try.underlying9 (Kd.own_of_R (Kd.R_below HO3.out hb4)); obtain ⟨B2, rfl, cell2x⟩ := (own_reads' (Kd.own_of_R (Kd.R_below HO2'.out hb4))).at_ 0 (by decide) (by decide); have cell2 : w4.cell? B2 = some (.int .u64 258) := (by simpa [Addr.add, rd] using cell2x); clear cell2x; obtain ⟨ad4, hA4, _⟩ := (Kd.N_reads' ho4).2.2.2.2 (by decide); subst hA4; obtain ⟨q4, _, fk4, cell4⟩ := Kd.N_get ho4 [] 0 (by decide) (by decide); obtain ⟨A5, c5, rfl, hc5, hC5⟩ := Kd.FK_now fk4; have cell4' : w4.cell? ad4 = some (.slice A5 1 c5) := (by have h_ := cell4 0 _ rfl; simpa [Addr.add] using h_); have cv4 : (convert 26 9 (.slice A5 1 c5)).run Try.prog w4 = .ok (.string ⟨#[97]⟩) w4 := string_of_reads (P := Try.prog) (c := c5) Try.underlying26 Try.underlying5 Try.underlying9 (Kd.reads_of_C hC5); clear ho4 hb4 cell4 hC5 fk4 HB3))
  go_ret
  exact ⟨rfl, HB4.out⟩

def paternosterlaw01_awake.f : Option Bool := some true
theorem paternosterlaw01_awake.calls (r : Bool) (w : World) (h : paternosterlaw01_awake.f = some r) : Calls Try.prog 12 #[] w fun e w' => e = .returned (.bool r) ∧ Below w.heap.size w w' := by
  obtain rfl : true = r := by simpa [paternosterlaw01_awake.f] using h
  exact awake_true w

end Go.Proofs.Ytdlmnaoaninkaaa.PAll
