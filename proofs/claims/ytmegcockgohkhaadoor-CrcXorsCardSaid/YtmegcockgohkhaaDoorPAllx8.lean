-- Written by myprint.py: the kit's print.py over this seat's translation, with contracts of my own.
import Derived.Test.YtmegcockgohkhaaDoorPAllx0
import Derived.Test.YtmegcockgohkhaaDoorPAllx1
import Derived.Test.YtmegcockgohkhaaDoorPAllx5
import Derived.Test.YtmegcockgohkhaaDoorPAllx7
namespace Go.Proofs.YtmegcockgohkhaaDoor.PAll
open Go.RowKit Go.Proofs.YtmegcockgohkhaaDoorW.PrintWords Go.Proofs.YtmegcockgohkhaaDoorW.PrintLast Go.Proofs.YtmegcockgohkhaaDoorW.PrintMore
attribute [local go_sem] max2_int min2_int max_two min_two max_three min_three max_four min_four   -- for this text's walks alone
set_option linter.unusedVariables false
set_option linter.unusedSimpArgs false

/-! ### paternosterlaw02_awake: function 9 -/
/-- A literal row reads as its elements, whatever of it is marked. -/
theorem C_lit (k : IntKind) (xs : List Int) (W : World) (e : Nat) (fr : Nat × Nat) (hm : xs.length ≤ 9223372036854775807) : Kd.C (Kd.int k) (W.alloc (.cells (nums k xs).toArray e fr)) (some ⟨W.heap.size, 0, none⟩) xs.length xs := by
  refine ⟨rfl, hm, fun _ => ⟨_, rfl, fun j p hp => ⟨[.int k p], rfl, rfl, fun i u hu => ?_⟩⟩⟩
  rcases i with _ | i
  · simp only [List.getElem?_cons_zero, Option.some.injEq] at hu
    subst hu
    rw [show j * (Kd.int k).sz + 0 = j from by simp [Kd.int, Kd.scalar], WideShapes.add_plain]
    have hn : (W.alloc (.cells (nums k xs).toArray e fr)).heap[W.heap.size]? = some (.cells (nums k xs).toArray e fr) := World.alloc_heap_new W _
    unfold World.cell?
    rw [hn]
    simp [nums, hp]
  · simp at hu

theorem C_row1 (W : World) (A : Option Addr) (n c : Nat) (l : List Int) (hn : l.length = n) (hc : n ≤ c) (h : Kd.C (Kd.int .u8) W A n l) : Kd.C (Kd.slice 5 (Kd.int .u8)) (W.alloc (.cells #[.slice A n c] 22)) (some ⟨W.heap.size, 0, none⟩) 1 [l] := by
  have hn' : (W.alloc (.cells #[.slice A n c] 22)).heap[W.heap.size]? = some (.cells #[.slice A n c] 22 (0, 0)) := World.alloc_heap_new W _
  refine ⟨rfl, by decide, fun _ => ⟨_, rfl, fun j p hp => ?_⟩⟩
  rcases j with _ | j
  · simp only [List.getElem?_cons_zero, Option.some.injEq] at hp
    subst hp
    refine ⟨[.slice A n c], rfl, ⟨A, c, by rw [hn], by omega, by rw [hn]; exact Kd.C_below h (below_alloc (Below.refl _ _) _)⟩, fun i u hu => ?_⟩
    rcases i with _ | i
    · simp only [List.getElem?_cons_zero, Option.some.injEq] at hu
      subst hu
      rw [WideShapes.add_plain]; unfold World.cell?; rw [hn']; rfl
    · simp at hu
  · simp at hp

theorem awk_f : crc_Seal.f 10 [97, 98] = some [97, 98, 109, 72, 131, 158] := by decide +kernel
theorem awk_f2 : crc_Open.f 20 [97, 98, 109, 72, 131, 158] = some ([97, 98], true) := by decide +kernel
theorem awk_f3 : crc_Of.f [[49, 50, 51, 52, 53, 54, 55, 56, 57]] = some 3421780262 := by decide +kernel
theorem awk_of (W : World) (hl_ : Half W) : Calls Tryd.prog 11 #[.slice (some ⟨W.heap.size + 1, 0, none⟩) 1 1] ((W.alloc (.cells #[.int .u8 49, .int .u8 50, .int .u8 51, .int .u8 52, .int .u8 53, .int .u8 54, .int .u8 55, .int .u8 56, .int .u8 57] 5 (9, 10))).alloc (.cells #[.slice (some ⟨W.heap.size, 0, none⟩) 9 9] 22)) fun e w' => e = .returned (.int .u32 3421780262) ∧ Drawn0 ((W.alloc (.cells #[.int .u8 49, .int .u8 50, .int .u8 51, .int .u8 52, .int .u8 53, .int .u8 54, .int .u8 55, .int .u8 56, .int .u8 57] 5 (9, 10))).alloc (.cells #[.slice (some ⟨W.heap.size, 0, none⟩) 9 9] 22)) w' := by
  have h := C_row1 (W.alloc (.cells #[.int .u8 49, .int .u8 50, .int .u8 51, .int .u8 52, .int .u8 53, .int .u8 54, .int .u8 55, .int .u8 56, .int .u8 57] 5 (9, 10))) (some ⟨W.heap.size, 0, none⟩) 9 9 [49, 50, 51, 52, 53, 54, 55, 56, 57] rfl (by decide) (C_lit .u8 [49, 50, 51, 52, 53, 54, 55, 56, 57] W 5 (9, 10) (by decide))
  rw [World.size_alloc] at h
  exact crc_Of.calls _ 1 [[49, 50, 51, 52, 53, 54, 55, 56, 57]] 3421780262 _ h (by decide) awk_f3 (hl_.keep (below_alloc (below_alloc (Below.refl _ _) _) _))
theorem awk_str (W : World) (B : Nat) (A : Option Addr) (c m : Nat) (h : Kd.R (Kd.int .u8) 5 W B (fun _ => True) (.slice A 2 c) [97, 98]) : (convert 22 9 (.slice A 2 c)).run Tryd.prog (((W.alloc (.cells #[.int .u8 49, .int .u8 50, .int .u8 51, .int .u8 52, .int .u8 53, .int .u8 54, .int .u8 55, .int .u8 56, .int .u8 57] 5 (9, 10))).alloc (.cells #[.slice (some ⟨W.heap.size, 0, none⟩) 9 9] 22)).drewN m) = .ok (.string ⟨#[97, 98]⟩) (((W.alloc (.cells #[.int .u8 49, .int .u8 50, .int .u8 51, .int .u8 52, .int .u8 53, .int .u8 54, .int .u8 55, .int .u8 56, .int .u8 57] 5 (9, 10))).alloc (.cells #[.slice (some ⟨W.heap.size, 0, none⟩) 9 9] 22)).drewN m) :=
  own_string (P := Tryd.prog) Tryd.underlying22 Tryd.underlying5 Tryd.underlying9 (Kd.own_of_R (Kd.R_below h (pw_below_drewN (below_alloc (below_alloc (Below.refl _ _) _) _) m)))
theorem awk_seal (W : World) (hl_ : Half W) (A : Option Addr) (h : Kd.C (Kd.int .u8) W A 2 [97, 98]) : Calls Tryd.prog 14 #[.slice A 2 2] W fun e w' => ∃ v0_ : Value, e = .returned (v0_) ∧ Kd.R (Kd.int .u8) 5 w' W.heap.size (fun k_ => (W.heap.size ≤ k_)) v0_ [97, 98, 109, 72, 131, 158] ∧ Below W.heap.size W w' := crc_Seal.calls 10 (fun k_ => k_ < W.heap.size) A 2 [97, 98] [97, 98, 109, 72, 131, 158] W (Kd.V_mk (by decide) (Kd.C_F (Kd.heap_int .u8) h)) awk_f hl_
set_option maxRecDepth 100000 in
set_option maxHeartbeats 4000000 in
theorem awake_true (w : World) (hl_ : Half w) : Calls Tryd.prog 9 #[] w fun e w' => e = .returned (.bool true) ∧ Below w.heap.size w w' := by
  have HB := Aside0.mk (Below.refl w.heap.size w)
  have HL := Aside0.mk hl_
  have HL1 := Aside0.mk (hl_.keep (below_alloc HB.out (.cells (nums .u8 [97, 98]).toArray 5 (2, 3))))
  clear hl_
  have hseal := awk_seal _ HL1.out _ (C_lit .u8 [97, 98] w 5 (2, 3) (by decide))
  have kc := fun (W : World) (C : Array Value) (n c : Nat) => Go.Lib.run_convert_bytes_const (P := Tryd.prog) W 22 5 C n c Tryd.underlying22 Tryd.underlying5
  go_enter Tryd.func9, Tryd.ntmps9
  go_wp2_with (first
    | (go_at_call 14; refine hseal.mono ?_; rintro e w1 ⟨v1, rfl, ho1, hb1⟩; obtain ⟨A1, c1, rfl⟩ := Kd.R_slice ho1; have HO1 := Aside0.mk ho1; have HB1 := Aside0.mk ((below_alloc HB.out _).trans (hb1.mono (by simp))); have h1s : w.heap.size ≤ w1.heap.size := below_size HB1.out; clear ho1 hb1 HB hseal)
    | (go_at_call 12; refine (crc_Open.calls 20 _ _ [97, 98, 109, 72, 131, 158] [97, 98] true _ (Kd.R_reads' HO1.out).2.2 (Kd.R_reads' HO1.out).2.1 awk_f2 (HL.out.keep HB1.out)).mono ?_; rintro e w2 ⟨v2, rfl, ho2, hb2⟩; obtain ⟨A2, c2, rfl⟩ := Kd.R_slice ho2; have HO2 := Aside0.mk ho2; have HB2 := Aside0.mk (HB1.out.trans (hb2.mono h1s)); have h2s : w.heap.size ≤ w2.heap.size := below_size HB2.out; clear ho2 hb2 HB1 HO1)
    | (go_at_call 11; refine (awk_of w2 (HL.out.keep HB2.out)).mono ?_; rintro e w3 ⟨rfl, ⟨m3, rfl⟩⟩; have cv1 := awk_str w2 _ _ _ m3 HO2.out))
  go_ret
  exact ⟨rfl, pw_below_drewN (below_alloc (below_alloc HB2.out _) _) _⟩
def paternosterlaw02_awake.f : Option Bool := some true
theorem paternosterlaw02_awake.calls (r : Bool) (w : World) (h : paternosterlaw02_awake.f = some r) (hl_ : Half w) : Calls Tryd.prog 9 #[] w fun e w' => e = .returned (.bool r) ∧ Below w.heap.size w w' := by
  obtain rfl := Option.some.inj h
  exact awake_true w hl_

end Go.Proofs.YtmegcockgohkhaaDoor.PAll
