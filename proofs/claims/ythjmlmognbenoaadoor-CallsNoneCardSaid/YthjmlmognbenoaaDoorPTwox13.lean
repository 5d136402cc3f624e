-- Written by myprint.py: the kit's print.py over this seat's translation, with contracts of my own.
import Derived.Test.YthjmlmognbenoaaDoorPTwox0
import Derived.Test.YthjmlmognbenoaaDoorPTwox1
import Derived.Test.YthjmlmognbenoaaDoorPTwox4
import Derived.Test.YthjmlmognbenoaaDoorPTwox6
import Derived.Test.YthjmlmognbenoaaDoorPTwox8
import Derived.Test.YthjmlmognbenoaaDoorPTwox10
import Derived.Test.YthjmlmognbenoaaDoorPTwox11
import Derived.Test.YthjmlmognbenoaaDoorPTwox12
namespace Go.Proofs.YthjmlmognbenoaaDoor.PTwo
open Go.RowKit Go.Proofs.YthjmlmognbenoaaDoorW.PrintWords Go.Proofs.YthjmlmognbenoaaDoorW.PrintLast Go.Proofs.YthjmlmognbenoaaDoorW.PrintMore
attribute [local go_sem] max2_int min2_int max_two min_two max_three min_three max_four min_four   -- for this text's walks alone
set_option linter.unusedVariables false
set_option linter.unusedSimpArgs false

/-! ### paternosterlaw22_CallsNone: function 7 -/
mutual
def paternosterlaw22_CallsNone.l0 : Nat → Int → Int → Int → Int → Int → Int → Int → Int → List Int → Option (Bool)
  | 0, _, _, _, _, _, _, _, _, _ => none
  | k + 1, x0, x1, x2, x3, x13, x14, x15, x148000, x148001 => if x15 ≤ x13 then ((calls_Calls_Next.f x148000 x148001 x15 x14 4294967295).bind fun t148 => (if t148 = (-1) then (paternosterlaw22_CallsNone.l0 k x0 x1 x2 x3 x13 x14 (wrap64 (x15 + 1)) x148000 x148001) else (some false))) else (if x2 ≥ 0 then (if x2 < x3 then (paternosterlaw22_CallsNone.j1 k x0 x1 x2 x3 x13 (decide (x2 < 32)) x148000 x148001) else (paternosterlaw22_CallsNone.j1 k x0 x1 x2 x3 x13 false x148000 x148001)) else (paternosterlaw22_CallsNone.j1 k x0 x1 x2 x3 x13 false x148000 x148001))
def paternosterlaw22_CallsNone.j1 : Nat → Int → Int → Int → Int → Int → Bool → Int → List Int → Option (Bool)
  | 0, _, _, _, _, _, _, _, _ => none
  | k + 1, x0, x1, x2, x3, x13, x16, x148000, x148001 => (calls_Calls_Hall.f x148000 x148001 x2 x3).bind fun bt149 => ((calls_Calls_Car.f x148000 x148001 x1 x2 x3).bind fun bt155 => (if x1 ≥ 0 then (paternosterlaw22_CallsNone.j2 k x0 x1 x2 x13 x16 bt149.2.2 bt155.2.2 (decide (x1 < x13)) x148000 x148001 bt149.1 bt149.2.1 bt155.1 bt155.2.1) else (paternosterlaw22_CallsNone.j2 k x0 x1 x2 x13 x16 bt149.2.2 bt155.2.2 false x148000 x148001 bt149.1 bt149.2.1 bt155.1 bt155.2.1)))
def paternosterlaw22_CallsNone.j2 : Nat → Int → Int → Int → Int → Bool → Bool → Bool → Bool → Int → List Int → Int → List Int → Int → List Int → Option (Bool)
  | 0, _, _, _, _, _, _, _, _, _, _, _, _, _, _ => none
  | k + 1, x0, x1, x2, x13, x16, x18, x20, x21, x148000, x148001, x155000, x155001, x161000, x161001 => if (x18 != x16) = true then (paternosterlaw22_CallsNone.j3 k x0 x1 x2 x13 true x148000 x148001) else (if x16 = true then (if (x20 != x21) = true then (paternosterlaw22_CallsNone.j3 k x0 x1 x2 x13 true x148000 x148001) else (if x18 = true then (if x20 = true then ((calls_Calls_Many.f x155000 x155001).bind fun t161 => (if t161 = 1 then ((calls_Calls_Many.f x161000 x161001).bind fun t162 => (paternosterlaw22_CallsNone.j3 k x0 x1 x2 x13 (t162 != 1) x148000 x148001)) else (paternosterlaw22_CallsNone.j3 k x0 x1 x2 x13 true x148000 x148001))) else ((calls_Calls_Many.f x161000 x161001).bind fun t163 => (if t163 = 0 then ((calls_Calls_Many.f x155000 x155001).bind fun t164 => (if t164 = 1 then (paternosterlaw22_CallsNone.j3 k x0 x1 x2 x13 false x148000 x148001) else (paternosterlaw22_CallsNone.j3 k x0 x1 x2 x13 true x148000 x148001))) else (paternosterlaw22_CallsNone.j3 k x0 x1 x2 x13 true x148000 x148001)))) else ((calls_Calls_Many.f x155000 x155001).bind fun t165 => (if t165 = 0 then (if x20 = true then ((calls_Calls_Many.f x161000 x161001).bind fun t166 => (paternosterlaw22_CallsNone.j3 k x0 x1 x2 x13 (t166 != 1) x148000 x148001)) else ((calls_Calls_Many.f x161000 x161001).bind fun t167 => (if t167 = 0 then (paternosterlaw22_CallsNone.j3 k x0 x1 x2 x13 false x148000 x148001) else (paternosterlaw22_CallsNone.j3 k x0 x1 x2 x13 true x148000 x148001)))) else (paternosterlaw22_CallsNone.j3 k x0 x1 x2 x13 true x148000 x148001))))) else (if (x20 != false) = true then (paternosterlaw22_CallsNone.j3 k x0 x1 x2 x13 true x148000 x148001) else (if x18 = true then (if x20 = true then ((calls_Calls_Many.f x155000 x155001).bind fun t168 => (if t168 = 1 then ((calls_Calls_Many.f x161000 x161001).bind fun t169 => (paternosterlaw22_CallsNone.j3 k x0 x1 x2 x13 (t169 != 1) x148000 x148001)) else (paternosterlaw22_CallsNone.j3 k x0 x1 x2 x13 true x148000 x148001))) else ((calls_Calls_Many.f x161000 x161001).bind fun t170 => (if t170 = 0 then ((calls_Calls_Many.f x155000 x155001).bind fun t171 => (if t171 = 1 then (paternosterlaw22_CallsNone.j3 k x0 x1 x2 x13 false x148000 x148001) else (paternosterlaw22_CallsNone.j3 k x0 x1 x2 x13 true x148000 x148001))) else (paternosterlaw22_CallsNone.j3 k x0 x1 x2 x13 true x148000 x148001)))) else ((calls_Calls_Many.f x155000 x155001).bind fun t172 => (if t172 = 0 then (if x20 = true then ((calls_Calls_Many.f x161000 x161001).bind fun t173 => (paternosterlaw22_CallsNone.j3 k x0 x1 x2 x13 (t173 != 1) x148000 x148001)) else ((calls_Calls_Many.f x161000 x161001).bind fun t174 => (if t174 = 0 then (paternosterlaw22_CallsNone.j3 k x0 x1 x2 x13 false x148000 x148001) else (paternosterlaw22_CallsNone.j3 k x0 x1 x2 x13 true x148000 x148001)))) else (paternosterlaw22_CallsNone.j3 k x0 x1 x2 x13 true x148000 x148001))))))
def paternosterlaw22_CallsNone.j3 : Nat → Int → Int → Int → Int → Bool → Int → List Int → Option (Bool)
  | 0, _, _, _, _, _, _, _ => none
  | k + 1, x0, x1, x2, x13, x120, x148000, x148001 => if x120 = true then (some false) else ((calls_Calls_Many.f x148000 x148001).bind fun t175 => (if t175 = 0 then ((calls_Calls_Done.f x148000 x148001 x1 x2 true).bind fun bt176 => ((calls_Calls_Many.f bt176.1 bt176.2).bind fun t180 => (if t180 = 0 then (if x13 ≤ 64 then (if x13 = x0 then (some true) else (some (x13 == 0))) else (some false)) else (some false)))) else (some false)))
end
def paternosterlaw22_CallsNone.f (k : Nat) (a0 : Int) (a1 : Int) (a2 : Int) (a3 : Int) (a4 : Int) : Option (Bool) := (paternosterlaw22_awake.f).bind fun t142 => (if t142 = true then ((calls_New.f a0).bind fun bt143 => (paternosterlaw22_CallsNone.l0 k a0 a1 a2 a3 (bt143.2.length : Int) (Int.tmod (wrap64 (a4)) 249) (-1) bt143.1 bt143.2)) else (some false))
theorem paternosterlaw22_CallsNone.mono_l : ∀ k, (∀ y0 y1 y2 y3 y4 y5 y6 y7 y8, LeO (paternosterlaw22_CallsNone.l0 k y0 y1 y2 y3 y4 y5 y6 y7 y8) (paternosterlaw22_CallsNone.l0 (k + 1) y0 y1 y2 y3 y4 y5 y6 y7 y8)) ∧ (∀ y0 y1 y2 y3 y4 y5 y6 y7, LeO (paternosterlaw22_CallsNone.j1 k y0 y1 y2 y3 y4 y5 y6 y7) (paternosterlaw22_CallsNone.j1 (k + 1) y0 y1 y2 y3 y4 y5 y6 y7)) ∧ (∀ y0 y1 y2 y3 y4 y5 y6 y7 y8 y9 y10 y11 y12 y13, LeO (paternosterlaw22_CallsNone.j2 k y0 y1 y2 y3 y4 y5 y6 y7 y8 y9 y10 y11 y12 y13) (paternosterlaw22_CallsNone.j2 (k + 1) y0 y1 y2 y3 y4 y5 y6 y7 y8 y9 y10 y11 y12 y13)) ∧ (∀ y0 y1 y2 y3 y4 y5 y6, LeO (paternosterlaw22_CallsNone.j3 k y0 y1 y2 y3 y4 y5 y6) (paternosterlaw22_CallsNone.j3 (k + 1) y0 y1 y2 y3 y4 y5 y6))
  | 0 => ⟨fun _ _ _ _ _ _ _ _ _ r h => by simp [paternosterlaw22_CallsNone.l0] at h, fun _ _ _ _ _ _ _ _ r h => by simp [paternosterlaw22_CallsNone.j1] at h, fun _ _ _ _ _ _ _ _ _ _ _ _ _ _ r h => by simp [paternosterlaw22_CallsNone.j2] at h, fun _ _ _ _ _ _ _ r h => by simp [paternosterlaw22_CallsNone.j3] at h⟩
  | k + 1 => by
    obtain ⟨ih0, ih1, ih2, ih3⟩ := paternosterlaw22_CallsNone.mono_l k
    refine ⟨?_, ?_, ?_, ?_⟩
    · intro y0 y1 y2 y3 y4 y5 y6 y7 y8
      unfold paternosterlaw22_CallsNone.l0
      repeat' first
      | (with_reducible exact ih0 _ _ _ _ _ _ _ _ _)
      | (with_reducible exact ih1 _ _ _ _ _ _ _ _)
      | (with_reducible exact ih2 _ _ _ _ _ _ _ _ _ _ _ _ _ _)
      | (with_reducible exact ih3 _ _ _ _ _ _ _)
      | (with_reducible exact LeO.refl _)
      | (with_reducible exact LeO.none _)
      | (with_reducible refine LeO.ite ?_ ?_)
      | (with_reducible refine LeO.bind ?_ (fun _ => ?_))
      | exact ih0 _ _ _ _ _ _ _ _ _
      | exact ih1 _ _ _ _ _ _ _ _
      | exact ih2 _ _ _ _ _ _ _ _ _ _ _ _ _ _
      | exact ih3 _ _ _ _ _ _ _
      | exact LeO.none _
      | refine LeO.ite ?_ ?_
      | refine LeO.bind ?_ (fun _ => ?_)
    · intro y0 y1 y2 y3 y4 y5 y6 y7
      unfold paternosterlaw22_CallsNone.j1
      repeat' first
      | (with_reducible exact ih0 _ _ _ _ _ _ _ _ _)
      | (with_reducible exact ih1 _ _ _ _ _ _ _ _)
      | (with_reducible exact ih2 _ _ _ _ _ _ _ _ _ _ _ _ _ _)
      | (with_reducible exact ih3 _ _ _ _ _ _ _)
      | (with_reducible exact LeO.refl _)
      | (with_reducible exact LeO.none _)
      | (with_reducible refine LeO.ite ?_ ?_)
      | (with_reducible refine LeO.bind ?_ (fun _ => ?_))
      | exact ih0 _ _ _ _ _ _ _ _ _
      | exact ih1 _ _ _ _ _ _ _ _
      | exact ih2 _ _ _ _ _ _ _ _ _ _ _ _ _ _
      | exact ih3 _ _ _ _ _ _ _
      | exact LeO.none _
      | refine LeO.ite ?_ ?_
      | refine LeO.bind ?_ (fun _ => ?_)
    · intro y0 y1 y2 y3 y4 y5 y6 y7 y8 y9 y10 y11 y12 y13
      unfold paternosterlaw22_CallsNone.j2
      repeat' first
      | (with_reducible exact ih0 _ _ _ _ _ _ _ _ _)
      | (with_reducible exact ih1 _ _ _ _ _ _ _ _)
      | (with_reducible exact ih2 _ _ _ _ _ _ _ _ _ _ _ _ _ _)
      | (with_reducible exact ih3 _ _ _ _ _ _ _)
      | (with_reducible exact LeO.refl _)
      | (with_reducible exact LeO.none _)
      | (with_reducible refine LeO.ite ?_ ?_)
      | (with_reducible refine LeO.bind ?_ (fun _ => ?_))
      | exact ih0 _ _ _ _ _ _ _ _ _
      | exact ih1 _ _ _ _ _ _ _ _
      | exact ih2 _ _ _ _ _ _ _ _ _ _ _ _ _ _
      | exact ih3 _ _ _ _ _ _ _
      | exact LeO.none _
      | refine LeO.ite ?_ ?_
      | refine LeO.bind ?_ (fun _ => ?_)
    · intro y0 y1 y2 y3 y4 y5 y6
      unfold paternosterlaw22_CallsNone.j3
      repeat' first
      | (with_reducible exact ih0 _ _ _ _ _ _ _ _ _)
      | (with_reducible exact ih1 _ _ _ _ _ _ _ _)
      | (with_reducible exact ih2 _ _ _ _ _ _ _ _ _ _ _ _ _ _)
      | (with_reducible exact ih3 _ _ _ _ _ _ _)
      | (with_reducible exact LeO.refl _)
      | (with_reducible exact LeO.none _)
      | (with_reducible refine LeO.ite ?_ ?_)
      | (with_reducible refine LeO.bind ?_ (fun _ => ?_))
      | exact ih0 _ _ _ _ _ _ _ _ _
      | exact ih1 _ _ _ _ _ _ _ _
      | exact ih2 _ _ _ _ _ _ _ _ _ _ _ _ _ _
      | exact ih3 _ _ _ _ _ _ _
      | exact LeO.none _
      | refine LeO.ite ?_ ?_
      | refine LeO.bind ?_ (fun _ => ?_)
theorem paternosterlaw22_CallsNone.mono : ∀ a0 a1 a2 a3 a4 k, LeO (paternosterlaw22_CallsNone.f k a0 a1 a2 a3 a4) (paternosterlaw22_CallsNone.f (k + 1) a0 a1 a2 a3 a4) := by
  intro a0 a1 a2 a3 a4 k
  obtain ⟨ih0, ih1, ih2, ih3⟩ := paternosterlaw22_CallsNone.mono_l k
  unfold paternosterlaw22_CallsNone.f
  repeat' first
      | (with_reducible exact ih0 _ _ _ _ _ _ _ _ _)
      | (with_reducible exact ih1 _ _ _ _ _ _ _ _)
      | (with_reducible exact ih2 _ _ _ _ _ _ _ _ _ _ _ _ _ _)
      | (with_reducible exact ih3 _ _ _ _ _ _ _)
      | (with_reducible exact LeO.refl _)
      | (with_reducible exact LeO.none _)
      | (with_reducible refine LeO.ite ?_ ?_)
      | (with_reducible refine LeO.bind ?_ (fun _ => ?_))
      | exact ih0 _ _ _ _ _ _ _ _ _
      | exact ih1 _ _ _ _ _ _ _ _
      | exact ih2 _ _ _ _ _ _ _ _ _ _ _ _ _ _
      | exact ih3 _ _ _ _ _ _ _
      | exact LeO.none _
      | refine LeO.ite ?_ ?_
      | refine LeO.bind ?_ (fun _ => ?_)
set_option maxHeartbeats 8000000 in
set_option maxRecDepth 100000 in
theorem paternosterlaw22_CallsNone.calls (k : Nat) (a0 : Int) (a1 : Int) (a2 : Int) (a3 : Int) (a4 : Int) (r : Bool) (w : World) (h : paternosterlaw22_CallsNone.f k a0 a1 a2 a3 a4 = some r) (hl_ : PAll.Deb w) :
    Calls Tryd.prog 7 #[.int .i64 a0, .int .i64 a1, .int .i64 a2, .int .i64 a3, .int .u8 a4] w fun e w' => e = .returned (.bool r) ∧ Below w.heap.size w w' := by
  have HLAID := Aside0.mk hl_
  clear hl_
  have hu27 := Tryd.underlying27
  have HB := Aside0.mk (Below.refl w.heap.size w)
  have H : ((paternosterlaw22_awake.f).bind fun t142 => (if t142 = true then ((calls_New.f a0).bind fun bt143 => (paternosterlaw22_CallsNone.l0 k a0 a1 a2 a3 (bt143.2.length : Int) (Int.tmod (wrap64 (a4)) 249) (-1) bt143.1 bt143.2)) else (some false))) = some r := h
  clear h
  replace H := Option.bind_eq_some_iff.mp H
  obtain ⟨t142, A60, H⟩ := H
  replace H : (if t142 = true then ((calls_New.f a0).bind fun bt143 => (paternosterlaw22_CallsNone.l0 k a0 a1 a2 a3 (bt143.2.length : Int) (Int.tmod (wrap64 (a4)) 249) (-1) bt143.1 bt143.2)) else (some false)) = some r := H
  have A6 := Aside0.mk A60
  clear A60
  by_cases c7 : t142 = true
  · subst c7
    have H1 : ((calls_New.f a0).bind fun bt143 => (paternosterlaw22_CallsNone.l0 k a0 a1 a2 a3 (bt143.2.length : Int) (Int.tmod (wrap64 (a4)) 249) (-1) bt143.1 bt143.2)) = some r := by rw [if_pos rfl] at H; exact H
    clear H
    have H := H1
    clear H1
    replace H := Option.bind_eq_some_iff.mp H
    obtain ⟨⟨t143, t144⟩, A80, H⟩ := H
    replace H : (paternosterlaw22_CallsNone.l0 k a0 a1 a2 a3 (t144.length : Int) (Int.tmod (wrap64 (a4)) 249) (-1) t143 t144) = some r := H
    have A8 := Aside0.mk A80
    clear A80
    have H' := Aside0.mk H
    clear H
    go_enter Tryd.func7, Tryd.ntmps7
    go_wp2_with (first | ((with_reducible refine gate_callee (f := 8) rfl ?_); refine goesL_ (some 22) rfl rfl Tryd.func8 (by kernel_rfl) rfl #[] rfl (by (try simp only [List.map_toArray, List.map_cons, List.map_nil]); first | done | rfl | (simp only [List.length_drop, List.length_take]; rfl)) ?_; (with_reducible refine (paternosterlaw22_awake.calls  true _ A6.out (PAll.Deb.keep HLAID.out (by repeat (first | (with_reducible first | exact HB.out | apply below_alloc | apply pw_below_drewN | apply below_drew1 | refine below_set ?_ (Aside0.out (by assumption))) | exact HB.out | refine below_set ?_ (Aside0.out (by assumption)))))).mono ?_); rintro e w9 ⟨rfl, hb⟩; refine ⟨_, rfl, ?_⟩; have n0_ := Aside0.mk (below_step (by repeat (first | (with_reducible first | exact HB.out | apply below_alloc | apply pw_below_drewN | apply below_drew1) | exact HB.out)) hb); clear HB; have HB := n0_; clear n0_; (try clear hb); (try clear hb2); (try clear hk); (try clear hi)) | ((with_reducible refine gate_callee (f := 9) rfl ?_); refine goesL_ (some 26) rfl rfl Tryd.func9 (by kernel_rfl) rfl #[.int .i64 a0] rfl (by (try simp only [List.map_toArray, List.map_cons, List.map_nil]); first | done | rfl | (simp only [List.length_drop, List.length_take]; rfl)) ?_; (with_reducible refine (calls_New.calls a0 t143 t144 _ A8.out).mono ?_); rintro e w10 ⟨v145, rfl, ho0, hb⟩; refine ⟨_, rfl, ?_⟩; have n0_ := Aside0.mk (Kd.R_lower ho0 (below_size (by repeat (first | (with_reducible first | exact HB.out | apply below_alloc | apply pw_below_drewN | apply below_drew1) | exact HB.out)))); have n1_ := Aside0.mk (below_step (by repeat (first | (with_reducible first | exact HB.out | apply below_alloc | apply pw_below_drewN | apply below_drew1) | exact HB.out)) hb); clear HB; have HO146 := n0_; have HB := n1_; clear n0_ n1_; (try clear hb); (try clear hb2); (try clear hk); (try clear hi); (try clear ho0)) | ((with_reducible refine gate_dst (N := 12) rfl ?_); refine box_event ?hg (N := 12) ?hd (cs := #[.int .u32 0, .slice none 0 0]) (t := 27) ?hr ?_; (case hd => rfl); (case hg => rfl); (case hr => first | (go_simp; done) | (go_simp; rfl)); intro gb147 hg w11 hbox hb; have n0_ := Aside0.mk (Kd.R_below (by (with_reducible repeat (first | apply Kd.R_alloc | apply Kd.R_drewN | apply Kd.R_drew)); exact HO146.out) hb); have n1_ := Aside0.mk (below_step (by repeat (first | (with_reducible first | exact HB.out | apply below_alloc | apply pw_below_drewN | apply below_drew1) | exact HB.out)) hb); have n2_ := Aside0.mk (hbox); have n3_ := Aside0.mk ((by rw [hg]; exact (below_size (by repeat (first | (with_reducible first | exact HB.out | apply below_alloc | apply pw_below_drewN | apply below_drew1) | exact HB.out))) : w.heap.size ≤ gb147)); have n4_ := Aside0.mk ((by rw [hg]; exact (below_size (by repeat (first | (with_reducible first | exact HB.out | apply below_alloc | apply pw_below_drewN | apply below_drew1) | exact HB.out))) : w.heap.size ≤ gb147)); clear HO146; clear HB; have HO146 := n0_; have HB := n1_; have BK147 := n2_; have GW147 := n3_; have GE147 := n4_; clear n0_ n1_ n2_ n3_ n4_; clear hb hbox hg; have hcz12_0 : w11.cell? ⟨gb147, 0, none⟩ = some (.int .u32 0) := (blk_cell BK147.out 0).trans rfl; have hcz12_1 : w11.cell? ⟨gb147, 1, none⟩ = some (.slice none 0 0) := (blk_cell BK147.out 1).trans rfl; have hfz12_0 := blk_frozen BK147.out 0; have hfz12_1 := blk_frozen BK147.out 1; obtain ⟨Ao13, co13, eo13⟩ := Kd.R_slice HO146.out; subst eo13))
    go_loopg [15] k (fun kq v15 w' => ∃ (x15_1 : Int), v15 = .int .i64 x15_1 ∧ Aside0 (paternosterlaw22_CallsNone.l0 kq a0 a1 a2 a3 (t144.length : Int) (Int.tmod (wrap64 (a4)) 249) x15_1 t143 t144 = some r) ∧ Aside0 (kq ≤ k) ∧ Aside0 (Kd.R (Kd.int .u32) 23 w' w.heap.size (fun _ => True) (.slice Ao13 t144.length co13) t144) ∧ Aside0 (w'.heap[gb147]? = some (.cells #[.int .u32 t143, (.slice Ao13 t144.length co13)] 27 (0, 0))) ∧ Aside0 (Below w.heap.size w w'))
    case atStart => exact ⟨((-1)), (by first | rfl | (simp; done) | (simp [*]; done)), H', ⟨Nat.le_refl _⟩, ⟨by (with_reducible repeat (first | apply Kd.R_alloc | apply Kd.R_drewN | apply Kd.R_drew)); exact Kd.R_mono (Kd.R_far (p := ⟨gb147, 1, none⟩) (Kd.R_far (p := ⟨gb147, 0, none⟩) (Kd.R_types HO146.out BK147.out (by decide)) (fun _ hk => hk.2) (.int .u32 t143)) (fun _ hk => hk.2) (.slice Ao13 t144.length co13)) (fun _ hk => trivial)⟩, ⟨by (with_reducible repeat (first | refine blk_drewN ?_ _ | refine blk_drew ?_ | refine blk_alloc ?_ _)); refine blk_put (cs := #[.int .u32 t143, .slice none 0 0]) ?_ 1 _ rfl; (with_reducible repeat (first | refine blk_drewN ?_ _ | refine blk_drew ?_ | refine blk_alloc ?_ _)); refine blk_put (cs := #[.int .u32 0, .slice none 0 0]) ?_ 0 _ rfl; (with_reducible repeat (first | refine blk_drewN ?_ _ | refine blk_drew ?_ | refine blk_alloc ?_ _)); exact BK147.out⟩, ⟨by repeat (first | (with_reducible first | exact HB.out | apply below_alloc | apply pw_below_drewN | apply below_drew1 | refine below_set ?_ GE147.out) | exact HB.out)⟩⟩
    case round =>
      clear H'
      try clear p2
      try clear p6
      try clear c7
      try clear c8
      try clear c9
      try clear hcz12_0
      try clear hcz12_1
      try clear hfz12_0
      try clear hfz12_1
      obtain ⟨x15_1, rfl, HA, HK1, HO_148001, BK147, HB⟩ := hrel
      cases gk with
      | zero => exact absurd HA.out (by simp [paternosterlaw22_CallsNone.l0])
      | succ k1 =>
        have H := HA.out
        clear HA
        simp only [paternosterlaw22_CallsNone.l0] at H
        by_cases c14 : x15_1 ≤ (t144.length : Int)
        · rw [if_pos c14] at H
          have c14b0 : decide (x15_1 ≤ (t144.length : Int)) = true := decide_eq_true c14
          clear c14
          replace H := Option.bind_eq_some_iff.mp H
          obtain ⟨t148, A150, H⟩ := H
          replace H : (if t148 = (-1) then (paternosterlaw22_CallsNone.l0 k1 a0 a1 a2 a3 (t144.length : Int) (Int.tmod (wrap64 (a4)) 249) (wrap64 (x15_1 + 1)) t143 t144) else (some false)) = some r := H
          have A15 := Aside0.mk A150
          clear A150
          by_cases c16 : t148 = (-1)
          · rw [if_pos c16] at H
            have c16b0 : (t148 == (-1)) = true := beq_iff_eq.mpr c16
            have c16b1 : (t148 != (-1)) = false := bne_eq_false_iff_eq.mpr c16
            clear c16
            have H' := Aside0.mk H
            clear H
            have hcz17_0 : wr.cell? ⟨gb147, 0, none⟩ = some (.int .u32 t143) := (blk_cell BK147.out 0).trans rfl
            have hcz17_1 : wr.cell? ⟨gb147, 1, none⟩ = some (.slice Ao13 t144.length co13) := (blk_cell BK147.out 1).trans rfl
            have hfz17_0 := blk_frozen BK147.out 0
            have hfz17_1 := blk_frozen BK147.out 1
            go_wp2_with (first | ((with_reducible refine gate_callee (f := 16) rfl ?_); refine goesL_ (some 41) rfl rfl Tryd.func16 (by kernel_rfl) rfl #[.agg #[.int .u32 t143, .slice Ao13 t144.length co13], .int .i64 x15_1, .int .i64 (Int.tmod (wrap64 (a4)) 249), .int .u32 4294967295] rfl (by (try simp only [List.map_toArray, List.map_cons, List.map_nil]); first | done | rfl | (simp only [List.length_drop, List.length_take]; rfl)) ?_; (with_reducible refine (calls_Calls_Next.calls t143 _ _ t144 x15_1 (Int.tmod (wrap64 (a4)) 249) 4294967295 t148 _ ?side1 ?side2 A15.out (PAll.Deb.keep HLAID.out (by repeat (first | (with_reducible first | exact HB.out | apply below_alloc | apply pw_below_drewN | apply below_drew1 | refine below_set ?_ (Aside0.out (by assumption))) | exact HB.out | refine below_set ?_ (Aside0.out (by assumption)))))).mono ?_); (case side1 => repeat (first | exact (Kd.R_reads' HO_148001.out).2.2 | (with_reducible refine Kd.C_alloc ?_ _) | (with_reducible refine Kd.C_drewN ?_ _) | (with_reducible refine Kd.C_drew ?_))); (case side2 => exact (Kd.R_reads' HO_148001.out).2.1); rintro e w18 ⟨rfl, hb⟩; refine ⟨_, rfl, ?_⟩; have n0_ := Aside0.mk (Kd.R_below (by (with_reducible repeat (first | apply Kd.R_alloc | apply Kd.R_drewN | apply Kd.R_drew)); exact HO_148001.out) hb); have n1_ := Aside0.mk (blk_below (g := gb147) (o := .cells #[.int .u32 t143, .slice Ao13 t144.length co13] 27 (0, 0)) (by (with_reducible repeat (first | refine blk_drewN ?_ _ | refine blk_drew ?_ | refine blk_alloc ?_ _)); exact BK147.out) hb); have n2_ := Aside0.mk (below_step (by repeat (first | (with_reducible first | exact HB.out | apply below_alloc | apply pw_below_drewN | apply below_drew1 | refine below_set ?_ GE147.out) | exact HB.out)) hb); clear HO_148001; clear BK147; clear HB; have HO_148001 := n0_; have BK147 := n1_; have HB := n2_; clear n0_ n1_ n2_; (try clear hb); (try clear hb2); (try clear hk); (try clear hi)))
            go_roundg k1
            case measure => have := HK1.out; omega
            case rel => exact ⟨(wrap64 (x15_1 + 1)), (by first | rfl | (simp; done) | (simp [*]; done)), H', ⟨by have := HK1.out; omega⟩, ⟨by (with_reducible repeat (first | apply Kd.R_alloc | apply Kd.R_drewN | apply Kd.R_drew)); exact HO_148001.out⟩, ⟨by (with_reducible repeat (first | refine blk_drewN ?_ _ | refine blk_drew ?_ | refine blk_alloc ?_ _)); exact BK147.out⟩, ⟨by repeat (first | (with_reducible first | exact HB.out | apply below_alloc | apply pw_below_drewN | apply below_drew1 | refine below_set ?_ GE147.out) | exact HB.out)⟩⟩
          · rw [if_neg c16] at H
            have c16b0 : (t148 == (-1)) = false := beq_eq_false_iff_ne.mpr c16
            have c16b1 : (t148 != (-1)) = true := bne_iff_ne.mpr c16
            obtain rfl := Option.some.inj H
            have hcz19_0 : wr.cell? ⟨gb147, 0, none⟩ = some (.int .u32 t143) := (blk_cell BK147.out 0).trans rfl
            have hcz19_1 : wr.cell? ⟨gb147, 1, none⟩ = some (.slice Ao13 t144.length co13) := (blk_cell BK147.out 1).trans rfl
            have hfz19_0 := blk_frozen BK147.out 0
            have hfz19_1 := blk_frozen BK147.out 1
            go_wp2_with (first | ((with_reducible refine gate_callee (f := 16) rfl ?_); refine goesL_ (some 41) rfl rfl Tryd.func16 (by kernel_rfl) rfl #[.agg #[.int .u32 t143, .slice Ao13 t144.length co13], .int .i64 x15_1, .int .i64 (Int.tmod (wrap64 (a4)) 249), .int .u32 4294967295] rfl (by (try simp only [List.map_toArray, List.map_cons, List.map_nil]); first | done | rfl | (simp only [List.length_drop, List.length_take]; rfl)) ?_; (with_reducible refine (calls_Calls_Next.calls t143 _ _ t144 x15_1 (Int.tmod (wrap64 (a4)) 249) 4294967295 t148 _ ?side1 ?side2 A15.out (PAll.Deb.keep HLAID.out (by repeat (first | (with_reducible first | exact HB.out | apply below_alloc | apply pw_below_drewN | apply below_drew1 | refine below_set ?_ (Aside0.out (by assumption))) | exact HB.out | refine below_set ?_ (Aside0.out (by assumption)))))).mono ?_); (case side1 => repeat (first | exact (Kd.R_reads' HO_148001.out).2.2 | (with_reducible refine Kd.C_alloc ?_ _) | (with_reducible refine Kd.C_drewN ?_ _) | (with_reducible refine Kd.C_drew ?_))); (case side2 => exact (Kd.R_reads' HO_148001.out).2.1); rintro e w20 ⟨rfl, hb⟩; refine ⟨_, rfl, ?_⟩; have n0_ := Aside0.mk (Kd.R_below (by (with_reducible repeat (first | apply Kd.R_alloc | apply Kd.R_drewN | apply Kd.R_drew)); exact HO_148001.out) hb); have n1_ := Aside0.mk (blk_below (g := gb147) (o := .cells #[.int .u32 t143, .slice Ao13 t144.length co13] 27 (0, 0)) (by (with_reducible repeat (first | refine blk_drewN ?_ _ | refine blk_drew ?_ | refine blk_alloc ?_ _)); exact BK147.out) hb); have n2_ := Aside0.mk (below_step (by repeat (first | (with_reducible first | exact HB.out | apply below_alloc | apply pw_below_drewN | apply below_drew1 | refine below_set ?_ GE147.out) | exact HB.out)) hb); clear HO_148001; clear BK147; clear HB; have HO_148001 := n0_; have BK147 := n1_; have HB := n2_; clear n0_ n1_ n2_; (try clear hb); (try clear hb2); (try clear hk); (try clear hi)))
            go_ret
            exact ⟨by first | rfl | (simp [errW_none, errW_some] <;> rfl) | (simp [*, errW_none, errW_some] <;> rfl), by repeat (first | (with_reducible first | exact HB.out | apply below_alloc | apply pw_below_drewN | apply below_drew1 | refine below_set ?_ GE147.out) | exact HB.out)⟩
        · rw [if_neg c14] at H
          have c14b0 : decide (x15_1 ≤ (t144.length : Int)) = false := decide_eq_false c14
          clear c14
          have HC21 := Aside0.mk H
          clear H
          go_upto_region 12 with (fail)
          go_cut [16] (fun v16 wc => ∃ (kq : Nat) (x16_20 : Bool), v16 = .bool x16_20 ∧ Aside0 (paternosterlaw22_CallsNone.j1 kq a0 a1 a2 a3 (t144.length : Int) x16_20 t143 t144 = some r) ∧ Aside0 (kq ≤ k1) ∧ Aside0 (Kd.R (Kd.int .u32) 23 wc w.heap.size (fun _ => True) (.slice Ao13 t144.length co13) t144) ∧ Aside0 (wc.heap[gb147]? = some (.cells #[.int .u32 t143, (.slice Ao13 t144.length co13)] 27 (0, 0))) ∧ Aside0 (Below w.heap.size w wc))
          case first =>
            have H := HC21.out
            clear HC21
            by_cases c22 : a2 ≥ 0
            · rw [if_pos c22] at H
              have c22b0 : decide (0 ≤ a2) = true := decide_eq_true c22
              clear c22
              (first | rw [c22b0] | (simp only [i64_w, i32_w]; rw [c22b0]) | skip)
              by_cases c23 : a2 < a3
              · rw [if_pos c23] at H
                have c23b0 : decide (a2 < a3) = true := decide_eq_true c23
                clear c23
                have H' := Aside0.mk H
                clear H
                go_wp2
                go_meet
                case rel => exact ⟨_, (decide (a2 < 32)), (by first | rfl | (simp; done) | (simp [*]; done)), H', ⟨by have := HK1.out; first | omega | exact Nat.le_refl _⟩, ⟨by (with_reducible repeat (first | apply Kd.R_alloc | apply Kd.R_drewN | apply Kd.R_drew)); exact HO_148001.out⟩, ⟨by (with_reducible repeat (first | refine blk_drewN ?_ _ | refine blk_drew ?_ | refine blk_alloc ?_ _)); exact BK147.out⟩, ⟨by repeat (first | (with_reducible first | exact HB.out | apply below_alloc | apply pw_below_drewN | apply below_drew1 | refine below_set ?_ GE147.out) | exact HB.out)⟩⟩
              · rw [if_neg c23] at H
                have c23b0 : decide (a2 < a3) = false := decide_eq_false c23
                clear c23
                have H' := Aside0.mk H
                clear H
                go_wp2
                go_meet
                case rel => exact ⟨_, (false), (by first | rfl | (simp; done) | (simp [*]; done)), H', ⟨by have := HK1.out; first | omega | exact Nat.le_refl _⟩, ⟨by (with_reducible repeat (first | apply Kd.R_alloc | apply Kd.R_drewN | apply Kd.R_drew)); exact HO_148001.out⟩, ⟨by (with_reducible repeat (first | refine blk_drewN ?_ _ | refine blk_drew ?_ | refine blk_alloc ?_ _)); exact BK147.out⟩, ⟨by repeat (first | (with_reducible first | exact HB.out | apply below_alloc | apply pw_below_drewN | apply below_drew1 | refine below_set ?_ GE147.out) | exact HB.out)⟩⟩
            · rw [if_neg c22] at H
              have c22b0 : decide (0 ≤ a2) = false := decide_eq_false c22
              clear c22
              (first | rw [c22b0] | (simp only [i64_w, i32_w]; rw [c22b0]) | skip)
              have H' := Aside0.mk H
              clear H
              go_wp2
              go_meet
              case rel => exact ⟨_, (false), (by first | rfl | (simp; done) | (simp [*]; done)), H', ⟨by have := HK1.out; first | omega | exact Nat.le_refl _⟩, ⟨by (with_reducible repeat (first | apply Kd.R_alloc | apply Kd.R_drewN | apply Kd.R_drew)); exact HO_148001.out⟩, ⟨by (with_reducible repeat (first | refine blk_drewN ?_ _ | refine blk_drew ?_ | refine blk_alloc ?_ _)); exact BK147.out⟩, ⟨by repeat (first | (with_reducible first | exact HB.out | apply below_alloc | apply pw_below_drewN | apply below_drew1 | refine below_set ?_ GE147.out) | exact HB.out)⟩⟩
          case rest =>
            clear HC21
            try clear c1
            try clear c2
            try clear p2
            try clear p6
            try clear c7
            try clear c8
            try clear c9
            try clear c14
            try clear c14b0
            try clear c16
            try clear c16b0
            try clear c16b1
            try clear c22
            try clear c22b0
            try clear c23
            try clear c23b0
            try clear hcz12_0
            try clear hcz12_1
            try clear hcz17_0
            try clear hcz17_1
            try clear hcz19_0
            try clear hcz19_1
            try clear hfz12_0
            try clear hfz12_1
            try clear hfz17_0
            try clear hfz17_1
            try clear hfz19_0
            try clear hfz19_1
            try clear p2
            try clear p6
            obtain ⟨kq, x16_20, rfl, HA, HJ20, HO_148001, BK147, HB⟩ := hcut
            cases kq with
            | zero => exact absurd HA.out (by simp [paternosterlaw22_CallsNone.j1])
            | succ kj20 =>
              have H := HA.out
              clear HA
              simp only [paternosterlaw22_CallsNone.j1] at H
              replace H := Option.bind_eq_some_iff.mp H
              obtain ⟨⟨t149, t150, t153⟩, A240, H⟩ := H
              replace H : ((calls_Calls_Car.f t143 t144 a1 a2 a3).bind fun bt155 => (if a1 ≥ 0 then (paternosterlaw22_CallsNone.j2 kj20 a0 a1 a2 (t144.length : Int) x16_20 t153 bt155.2.2 (decide (a1 < (t144.length : Int))) t143 t144 t149 t150 bt155.1 bt155.2.1) else (paternosterlaw22_CallsNone.j2 kj20 a0 a1 a2 (t144.length : Int) x16_20 t153 bt155.2.2 false t143 t144 t149 t150 bt155.1 bt155.2.1))) = some r := H
              have A24 := Aside0.mk A240
              clear A240
              replace H := Option.bind_eq_some_iff.mp H
              obtain ⟨⟨t155, t156, t159⟩, A250, H⟩ := H
              replace H : (if a1 ≥ 0 then (paternosterlaw22_CallsNone.j2 kj20 a0 a1 a2 (t144.length : Int) x16_20 t153 t159 (decide (a1 < (t144.length : Int))) t143 t144 t149 t150 t155 t156) else (paternosterlaw22_CallsNone.j2 kj20 a0 a1 a2 (t144.length : Int) x16_20 t153 t159 false t143 t144 t149 t150 t155 t156)) = some r := H
              have A25 := Aside0.mk A250
              clear A250
              have HC26 := Aside0.mk H
              clear H
              have hcz27_0 : wc.cell? ⟨gb147, 0, none⟩ = some (.int .u32 t143) := (blk_cell BK147.out 0).trans rfl
              have hcz27_1 : wc.cell? ⟨gb147, 1, none⟩ = some (.slice Ao13 t144.length co13) := (blk_cell BK147.out 1).trans rfl
              have hfz27_0 := blk_frozen BK147.out 0
              have hfz27_1 := blk_frozen BK147.out 1
              go_upto_region 15 with (first | ((with_reducible refine gate_callee (f := 11) rfl ?_); refine goesL_ (some 58) rfl rfl Tryd.func11 (by kernel_rfl) rfl #[.agg #[.int .u32 t143, .slice Ao13 t144.length co13], .int .i64 a2, .int .i64 a3] rfl (by (try simp only [List.map_toArray, List.map_cons, List.map_nil]); first | done | rfl | (simp only [List.length_drop, List.length_take]; rfl)) ?_; (with_reducible refine (calls_Calls_Hall.calls t143 _ _ t144 a2 a3 t149 t150 t153 _ ?side1 ?side2 A24.out).mono ?_); (case side1 => repeat (first | exact (Kd.R_reads' HO_148001.out).2.2 | (with_reducible refine Kd.C_alloc ?_ _) | (with_reducible refine Kd.C_drewN ?_ _) | (with_reducible refine Kd.C_drew ?_))); (case side2 => exact (Kd.R_reads' HO_148001.out).2.1); rintro e w28 ⟨v151, rfl, ho0, hb⟩; refine ⟨_, rfl, ?_⟩; have n0_ := Aside0.mk (Kd.R_elder' (by (with_reducible repeat (first | apply Kd.R_alloc | apply Kd.R_drewN | apply Kd.R_drew)); exact HO_148001.out) (Kd.R_base ho0) hb); have n1_ := Aside0.mk (Kd.R_lower (Kd.R_new' ho0 (Kd.R_lt (by (with_reducible repeat (first | apply Kd.R_alloc | apply Kd.R_drewN | apply Kd.R_drew)); exact HO_148001.out))) (below_size (by repeat (first | (with_reducible first | exact HB.out | apply below_alloc | apply pw_below_drewN | apply below_drew1 | refine below_set ?_ GE147.out) | exact HB.out)))); have n2_ := Aside0.mk (blk_below (g := gb147) (o := .cells #[.int .u32 t143, .slice Ao13 t144.length co13] 27 (0, 0)) (by (with_reducible repeat (first | refine blk_drewN ?_ _ | refine blk_drew ?_ | refine blk_alloc ?_ _)); exact BK147.out) hb); have n3_ := Aside0.mk (below_step (by repeat (first | (with_reducible first | exact HB.out | apply below_alloc | apply pw_below_drewN | apply below_drew1 | refine below_set ?_ GE147.out) | exact HB.out)) hb); clear HO_148001; clear BK147; clear HB; have HO_148001 := n0_; have HO152 := n1_; have BK147 := n2_; have HB := n3_; clear n0_ n1_ n2_ n3_; (try clear hb); (try clear hb2); (try clear hk); (try clear hi); (try clear ho0)) | ((with_reducible refine gate_dst (N := 17) rfl ?_); refine box_event ?hg (N := 17) ?hd (cs := #[.int .u32 0, .slice none 0 0]) (t := 27) ?hr ?_; (case hd => rfl); (case hg => rfl); (case hr => first | (go_simp; done) | (go_simp; rfl)); intro gb154 hg w29 hbox hb; have n0_ := Aside0.mk (Kd.R_below (by (with_reducible repeat (first | apply Kd.R_alloc | apply Kd.R_drewN | apply Kd.R_drew)); exact HO_148001.out) hb); have n1_ := Aside0.mk (Kd.R_below (by (with_reducible repeat (first | apply Kd.R_alloc | apply Kd.R_drewN | apply Kd.R_drew)); exact HO152.out) hb); have n2_ := Aside0.mk (blk_below (g := gb147) (o := .cells #[.int .u32 t143, .slice Ao13 t144.length co13] 27 (0, 0)) (by (with_reducible repeat (first | refine blk_drewN ?_ _ | refine blk_drew ?_ | refine blk_alloc ?_ _)); exact BK147.out) hb); have n3_ := Aside0.mk (below_step (by repeat (first | (with_reducible first | exact HB.out | apply below_alloc | apply pw_below_drewN | apply below_drew1 | refine below_set ?_ GE147.out) | exact HB.out)) hb); have n4_ := Aside0.mk (hbox); have n5_ := Aside0.mk ((by rw [hg]; exact (below_size (by repeat (first | (with_reducible first | exact HB.out | apply below_alloc | apply pw_below_drewN | apply below_drew1 | refine below_set ?_ GE147.out) | exact HB.out))) : w.heap.size ≤ gb154)); have n6_ := Aside0.mk ((by rw [hg]; exact (below_size (by repeat (first | (with_reducible first | exact HB.out | apply below_alloc | apply pw_below_drewN | apply below_drew1 | refine below_set ?_ GE147.out) | exact HB.out))) : w.heap.size ≤ gb154)); have n7_ := Aside0.mk ((by rw [hg]; exact Nat.ne_of_lt (blk_lt (g := gb147) (o := .cells #[.int .u32 t143, .slice Ao13 t144.length co13] 27 (0, 0)) (by (with_reducible repeat (first | refine blk_drewN ?_ _ | refine blk_drew ?_ | refine blk_alloc ?_ _)); exact BK147.out)) : gb147 ≠ gb154)); have n8_ := Aside0.mk ((by rw [hg]; exact Nat.ne_of_gt (blk_lt (g := gb147) (o := .cells #[.int .u32 t143, .slice Ao13 t144.length co13] 27 (0, 0)) (by (with_reducible repeat (first | refine blk_drewN ?_ _ | refine blk_drew ?_ | refine blk_alloc ?_ _)); exact BK147.out)) : gb154 ≠ gb147)); clear HO_148001; clear HO152; clear BK147; clear HB; have HO_148001 := n0_; have HO152 := n1_; have BK147 := n2_; have HB := n3_; have BK154 := n4_; have GW154 := n5_; have GE154 := n6_; have NB147_154 := n7_; have NB154_147 := n8_; clear n0_ n1_ n2_ n3_ n4_ n5_ n6_ n7_ n8_; clear hb hbox hg; have hnb30 := NB154_147.out; have hnc30 := NB147_154.out; have hcz31_0 : w29.cell? ⟨gb154, 0, none⟩ = some (.int .u32 0) := (blk_cell BK154.out 0).trans rfl; have hcz31_1 : w29.cell? ⟨gb154, 1, none⟩ = some (.slice none 0 0) := (blk_cell BK154.out 1).trans rfl; have hfz31_0 := blk_frozen BK154.out 0; have hfz31_1 := blk_frozen BK154.out 1; obtain ⟨Ao32, co32, eo32⟩ := Kd.R_slice HO152.out; subst eo32; have hcz33_0 : w29.cell? ⟨gb147, 0, none⟩ = some (.int .u32 t143) := (blk_cell BK147.out 0).trans rfl; have hcz33_1 : w29.cell? ⟨gb147, 1, none⟩ = some (.slice Ao13 t144.length co13) := (blk_cell BK147.out 1).trans rfl; have hfz33_0 := blk_frozen BK147.out 0; have hfz33_1 := blk_frozen BK147.out 1) | ((with_reducible refine gate_callee (f := 12) rfl ?_); refine goesL_ (some 66) rfl rfl Tryd.func12 (by kernel_rfl) rfl #[.agg #[.int .u32 t143, .slice Ao13 t144.length co13], .int .i64 a1, .int .i64 a2, .int .i64 a3] rfl (by (try simp only [List.map_toArray, List.map_cons, List.map_nil]); first | done | rfl | (simp only [List.length_drop, List.length_take]; rfl)) ?_; (with_reducible refine (calls_Calls_Car.calls t143 _ _ t144 a1 a2 a3 t155 t156 t159 _ ?side1 ?side2 A25.out).mono ?_); (case side1 => refine (Kd.R_reads' (e := 23) (base := w.heap.size) (ok := fun k_ => (True ∧ some k_ ≠ (.slice Ao32 t150.length co32 : Value).ownBlock)) (n := t144.length) (c := co13) ?_).2.2; exact (by (with_reducible repeat (first | apply Kd.R_alloc | apply Kd.R_drewN | apply Kd.R_drew)); exact (Kd.R_mono (Kd.R_far (p := ⟨gb154, 1, none⟩) (Kd.R_far (p := ⟨gb154, 0, none⟩) (Kd.R_types HO_148001.out BK154.out (by decide)) (fun _ hk => hk.2) (.int .u32 t149)) (fun _ hk => hk.2) (.slice Ao32 t150.length co32)) (fun _ h_ => h_.1)))); (case side2 => exact (Kd.R_reads' HO_148001.out).2.1); rintro e w34 ⟨v157, rfl, ho0, hb⟩; refine ⟨_, rfl, ?_⟩; have n0_ := Aside0.mk (Kd.R_elder' (by (with_reducible repeat (first | apply Kd.R_alloc | apply Kd.R_drewN | apply Kd.R_drew)); exact (Kd.R_mono (Kd.R_far (p := ⟨gb154, 1, none⟩) (Kd.R_far (p := ⟨gb154, 0, none⟩) (Kd.R_types HO_148001.out BK154.out (by decide)) (fun _ hk => hk.2) (.int .u32 t149)) (fun _ hk => hk.2) (.slice Ao32 t150.length co32)) (fun _ h_ => h_.1))) (Kd.R_base ho0) hb); have n1_ := Aside0.mk (Kd.R_elder' (by (with_reducible repeat (first | apply Kd.R_alloc | apply Kd.R_drewN | apply Kd.R_drew)); exact (Kd.R_mono (Kd.R_far (p := ⟨gb154, 1, none⟩) (Kd.R_far (p := ⟨gb154, 0, none⟩) (Kd.R_types HO152.out BK154.out (by decide)) (fun _ hk => hk.2) (.int .u32 t149)) (fun _ hk => hk.2) (.slice Ao32 t150.length co32)) (fun _ h_ => h_.1))) (Kd.R_base ho0) hb); have n2_ := Aside0.mk (Kd.R_lower (Kd.R_new' (Kd.R_new' ho0 (Kd.R_lt (by (with_reducible repeat (first | apply Kd.R_alloc | apply Kd.R_drewN | apply Kd.R_drew)); exact (Kd.R_mono (Kd.R_far (p := ⟨gb154, 1, none⟩) (Kd.R_far (p := ⟨gb154, 0, none⟩) (Kd.R_types HO_148001.out BK154.out (by decide)) (fun _ hk => hk.2) (.int .u32 t149)) (fun _ hk => hk.2) (.slice Ao32 t150.length co32)) (fun _ h_ => h_.1))))) (Kd.R_lt (by (with_reducible repeat (first | apply Kd.R_alloc | apply Kd.R_drewN | apply Kd.R_drew)); exact (Kd.R_mono (Kd.R_far (p := ⟨gb154, 1, none⟩) (Kd.R_far (p := ⟨gb154, 0, none⟩) (Kd.R_types HO152.out BK154.out (by decide)) (fun _ hk => hk.2) (.int .u32 t149)) (fun _ hk => hk.2) (.slice Ao32 t150.length co32)) (fun _ h_ => h_.1))))) (below_size (by repeat (first | (with_reducible first | exact HB.out | apply below_alloc | apply pw_below_drewN | apply below_drew1 | refine below_set ?_ GE147.out | refine below_set ?_ GE154.out) | exact HB.out)))); have n3_ := Aside0.mk (blk_below (g := gb147) (o := .cells #[.int .u32 t143, .slice Ao13 t144.length co13] 27 (0, 0)) (by (with_reducible repeat (first | refine blk_drewN ?_ _ | refine blk_drew ?_ | refine blk_alloc ?_ _)); refine blk_far ?_ NB147_154.out _; (with_reducible repeat (first | refine blk_drewN ?_ _ | refine blk_drew ?_ | refine blk_alloc ?_ _)); refine blk_far ?_ NB147_154.out _; (with_reducible repeat (first | refine blk_drewN ?_ _ | refine blk_drew ?_ | refine blk_alloc ?_ _)); exact BK147.out) hb); have n4_ := Aside0.mk (blk_below (g := gb154) (o := .cells #[.int .u32 t149, .slice Ao32 t150.length co32] 27 (0, 0)) (by (with_reducible repeat (first | refine blk_drewN ?_ _ | refine blk_drew ?_ | refine blk_alloc ?_ _)); refine blk_put (cs := #[.int .u32 t149, .slice none 0 0]) ?_ 1 _ rfl; (with_reducible repeat (first | refine blk_drewN ?_ _ | refine blk_drew ?_ | refine blk_alloc ?_ _)); refine blk_put (cs := #[.int .u32 0, .slice none 0 0]) ?_ 0 _ rfl; (with_reducible repeat (first | refine blk_drewN ?_ _ | refine blk_drew ?_ | refine blk_alloc ?_ _)); exact BK154.out) hb); have n5_ := Aside0.mk (below_step (by repeat (first | (with_reducible first | exact HB.out | apply below_alloc | apply pw_below_drewN | apply below_drew1 | refine below_set ?_ GE147.out | refine below_set ?_ GE154.out) | exact HB.out)) hb); clear HO_148001; clear HO152; clear BK147; clear BK154; clear HB; have HO_148001 := n0_; have HO152 := n1_; have HO158 := n2_; have BK147 := n3_; have BK154 := n4_; have HB := n5_; clear n0_ n1_ n2_ n3_ n4_ n5_; (try clear hb); (try clear hb2); (try clear hk); (try clear hi); (try clear ho0)) | ((with_reducible refine gate_dst (N := 19) rfl ?_); refine box_event ?hg (N := 19) ?hd (cs := #[.int .u32 0, .slice none 0 0]) (t := 27) ?hr ?_; (case hd => rfl); (case hg => rfl); (case hr => first | (go_simp; done) | (go_simp; rfl)); intro gb160 hg w35 hbox hb; have n0_ := Aside0.mk (Kd.R_below (by (with_reducible repeat (first | apply Kd.R_alloc | apply Kd.R_drewN | apply Kd.R_drew)); exact HO_148001.out) hb); have n1_ := Aside0.mk (Kd.R_below (by (with_reducible repeat (first | apply Kd.R_alloc | apply Kd.R_drewN | apply Kd.R_drew)); exact HO152.out) hb); have n2_ := Aside0.mk (Kd.R_below (by (with_reducible repeat (first | apply Kd.R_alloc | apply Kd.R_drewN | apply Kd.R_drew)); exact HO158.out) hb); have n3_ := Aside0.mk (blk_below (g := gb147) (o := .cells #[.int .u32 t143, .slice Ao13 t144.length co13] 27 (0, 0)) (by (with_reducible repeat (first | refine blk_drewN ?_ _ | refine blk_drew ?_ | refine blk_alloc ?_ _)); exact BK147.out) hb); have n4_ := Aside0.mk (blk_below (g := gb154) (o := .cells #[.int .u32 t149, .slice Ao32 t150.length co32] 27 (0, 0)) (by (with_reducible repeat (first | refine blk_drewN ?_ _ | refine blk_drew ?_ | refine blk_alloc ?_ _)); exact BK154.out) hb); have n5_ := Aside0.mk (below_step (by repeat (first | (with_reducible first | exact HB.out | apply below_alloc | apply pw_below_drewN | apply below_drew1 | refine below_set ?_ GE147.out | refine below_set ?_ GE154.out) | exact HB.out)) hb); have n6_ := Aside0.mk (hbox); have n7_ := Aside0.mk ((by rw [hg]; exact (below_size (by repeat (first | (with_reducible first | exact HB.out | apply below_alloc | apply pw_below_drewN | apply below_drew1 | refine below_set ?_ GE147.out | refine below_set ?_ GE154.out) | exact HB.out))) : w.heap.size ≤ gb160)); have n8_ := Aside0.mk ((by rw [hg]; exact (below_size (by repeat (first | (with_reducible first | exact HB.out | apply below_alloc | apply pw_below_drewN | apply below_drew1 | refine below_set ?_ GE147.out | refine below_set ?_ GE154.out) | exact HB.out))) : w.heap.size ≤ gb160)); have n9_ := Aside0.mk ((by rw [hg]; exact Nat.ne_of_lt (blk_lt (g := gb147) (o := .cells #[.int .u32 t143, .slice Ao13 t144.length co13] 27 (0, 0)) (by (with_reducible repeat (first | refine blk_drewN ?_ _ | refine blk_drew ?_ | refine blk_alloc ?_ _)); exact BK147.out)) : gb147 ≠ gb160)); have n10_ := Aside0.mk ((by rw [hg]; exact Nat.ne_of_gt (blk_lt (g := gb147) (o := .cells #[.int .u32 t143, .slice Ao13 t144.length co13] 27 (0, 0)) (by (with_reducible repeat (first | refine blk_drewN ?_ _ | refine blk_drew ?_ | refine blk_alloc ?_ _)); exact BK147.out)) : gb160 ≠ gb147)); have n11_ := Aside0.mk ((by rw [hg]; exact Nat.ne_of_lt (blk_lt (g := gb154) (o := .cells #[.int .u32 t149, .slice Ao32 t150.length co32] 27 (0, 0)) (by (with_reducible repeat (first | refine blk_drewN ?_ _ | refine blk_drew ?_ | refine blk_alloc ?_ _)); exact BK154.out)) : gb154 ≠ gb160)); have n12_ := Aside0.mk ((by rw [hg]; exact Nat.ne_of_gt (blk_lt (g := gb154) (o := .cells #[.int .u32 t149, .slice Ao32 t150.length co32] 27 (0, 0)) (by (with_reducible repeat (first | refine blk_drewN ?_ _ | refine blk_drew ?_ | refine blk_alloc ?_ _)); exact BK154.out)) : gb160 ≠ gb154)); clear HO_148001; clear HO152; clear HO158; clear BK147; clear BK154; clear HB; have HO_148001 := n0_; have HO152 := n1_; have HO158 := n2_; have BK147 := n3_; have BK154 := n4_; have HB := n5_; have BK160 := n6_; have GW160 := n7_; have GE160 := n8_; have NB147_160 := n9_; have NB160_147 := n10_; have NB154_160 := n11_; have NB160_154 := n12_; clear n0_ n1_ n2_ n3_ n4_ n5_ n6_ n7_ n8_ n9_ n10_ n11_ n12_; clear hb hbox hg; have hnb36 := NB160_147.out; have hnc36 := NB147_160.out; have hnb37 := NB160_154.out; have hnc37 := NB154_160.out; have hcz38_0 : w35.cell? ⟨gb160, 0, none⟩ = some (.int .u32 0) := (blk_cell BK160.out 0).trans rfl; have hcz38_1 : w35.cell? ⟨gb160, 1, none⟩ = some (.slice none 0 0) := (blk_cell BK160.out 1).trans rfl; have hfz38_0 := blk_frozen BK160.out 0; have hfz38_1 := blk_frozen BK160.out 1; obtain ⟨Ao39, co39, eo39⟩ := Kd.R_slice HO158.out; subst eo39))
              (try simp only [Act.put, List.setIfInBounds_toArray, List.set_cons_zero, List.set_cons_succ])
              go_cut [21] (fun v21 wc => ∃ (kq : Nat) (x21_25 : Bool), v21 = .bool x21_25 ∧ Aside0 (paternosterlaw22_CallsNone.j2 kq a0 a1 a2 (t144.length : Int) x16_20 t153 t159 x21_25 t143 t144 t149 t150 t155 t156 = some r) ∧ Aside0 (kq ≤ kj20) ∧ Aside0 (Kd.R (Kd.int .u32) 23 wc w.heap.size (fun k_ => some k_ ≠ ((.slice Ao32 t150.length co32) : Value).ownBlock ∧ some k_ ≠ ((.slice Ao39 t156.length co39) : Value).ownBlock) (.slice Ao13 t144.length co13) t144) ∧ Aside0 (Kd.R (Kd.int .u32) 23 wc w.heap.size (fun k_ => some k_ ≠ ((.slice Ao13 t144.length co13) : Value).ownBlock ∧ some k_ ≠ ((.slice Ao39 t156.length co39) : Value).ownBlock) (.slice Ao32 t150.length co32) t150) ∧ Aside0 (Kd.R (Kd.int .u32) 23 wc w.heap.size (fun k_ => some k_ ≠ ((.slice Ao13 t144.length co13) : Value).ownBlock ∧ some k_ ≠ ((.slice Ao32 t150.length co32) : Value).ownBlock) (.slice Ao39 t156.length co39) t156) ∧ Aside0 (wc.heap[gb147]? = some (.cells #[.int .u32 t143, (.slice Ao13 t144.length co13)] 27 (0, 0))) ∧ Aside0 (wc.heap[gb154]? = some (.cells #[.int .u32 t149, (.slice Ao32 t150.length co32)] 27 (0, 0))) ∧ Aside0 (wc.heap[gb160]? = some (.cells #[.int .u32 t155, (.slice Ao39 t156.length co39)] 27 (0, 0))) ∧ Aside0 (Below w.heap.size w wc))
              case first =>
                have H := HC26.out
                clear HC26
                by_cases c40 : a1 ≥ 0
                · rw [if_pos c40] at H
                  have c40b0 : decide (0 ≤ a1) = true := decide_eq_true c40
                  clear c40
                  (first | rw [c40b0] | (simp only [i64_w, i32_w]; rw [c40b0]) | skip)
                  have H' := Aside0.mk H
                  clear H
                  go_wp2
                  go_meet
                  case rel => exact ⟨_, (decide (a1 < (t144.length : Int))), (by first | rfl | (simp; done) | (simp [*]; done)), H', ⟨by have := HK1.out; have := HJ20.out; first | omega | exact Nat.le_refl _⟩, ⟨by (with_reducible repeat (first | apply Kd.R_alloc | apply Kd.R_drewN | apply Kd.R_drew)); exact Kd.R_mono (Kd.R_far (p := ⟨gb160, 1, none⟩) (Kd.R_far (p := ⟨gb160, 0, none⟩) (Kd.R_types HO_148001.out BK160.out (by decide)) (fun _ hk => hk.2) (.int .u32 t155)) (fun _ hk => hk.2) (.slice Ao39 t156.length co39)) (fun _ hk => ⟨hk.1.1.2, hk.1.2⟩)⟩, ⟨by (with_reducible repeat (first | apply Kd.R_alloc | apply Kd.R_drewN | apply Kd.R_drew)); exact Kd.R_mono (Kd.R_far (p := ⟨gb160, 1, none⟩) (Kd.R_far (p := ⟨gb160, 0, none⟩) (Kd.R_types HO152.out BK160.out (by decide)) (fun _ hk => hk.2) (.int .u32 t155)) (fun _ hk => hk.2) (.slice Ao39 t156.length co39)) (fun _ hk => ⟨hk.1.1.2, hk.1.2⟩)⟩, ⟨by (with_reducible repeat (first | apply Kd.R_alloc | apply Kd.R_drewN | apply Kd.R_drew)); exact Kd.R_mono (Kd.R_far (p := ⟨gb160, 1, none⟩) (Kd.R_far (p := ⟨gb160, 0, none⟩) (Kd.R_types HO158.out BK160.out (by decide)) (fun _ hk => hk.2) (.int .u32 t155)) (fun _ hk => hk.2) (.slice Ao39 t156.length co39)) (fun _ hk => ⟨hk.1.1.2, hk.1.2⟩)⟩, ⟨by (with_reducible repeat (first | refine blk_drewN ?_ _ | refine blk_drew ?_ | refine blk_alloc ?_ _)); refine blk_far ?_ NB147_160.out _; (with_reducible repeat (first | refine blk_drewN ?_ _ | refine blk_drew ?_ | refine blk_alloc ?_ _)); refine blk_far ?_ NB147_160.out _; (with_reducible repeat (first | refine blk_drewN ?_ _ | refine blk_drew ?_ | refine blk_alloc ?_ _)); exact BK147.out⟩, ⟨by (with_reducible repeat (first | refine blk_drewN ?_ _ | refine blk_drew ?_ | refine blk_alloc ?_ _)); refine blk_far ?_ NB154_160.out _; (with_reducible repeat (first | refine blk_drewN ?_ _ | refine blk_drew ?_ | refine blk_alloc ?_ _)); refine blk_far ?_ NB154_160.out _; (with_reducible repeat (first | refine blk_drewN ?_ _ | refine blk_drew ?_ | refine blk_alloc ?_ _)); exact BK154.out⟩, ⟨by (with_reducible repeat (first | refine blk_drewN ?_ _ | refine blk_drew ?_ | refine blk_alloc ?_ _)); refine blk_put (cs := #[.int .u32 t155, .slice none 0 0]) ?_ 1 _ rfl; (with_reducible repeat (first | refine blk_drewN ?_ _ | refine blk_drew ?_ | refine blk_alloc ?_ _)); refine blk_put (cs := #[.int .u32 0, .slice none 0 0]) ?_ 0 _ rfl; (with_reducible repeat (first | refine blk_drewN ?_ _ | refine blk_drew ?_ | refine blk_alloc ?_ _)); exact BK160.out⟩, ⟨by repeat (first | (with_reducible first | exact HB.out | apply below_alloc | apply pw_below_drewN | apply below_drew1 | refine below_set ?_ GE147.out | refine below_set ?_ GE154.out | refine below_set ?_ GE160.out) | exact HB.out)⟩⟩
                · rw [if_neg c40] at H
                  have c40b0 : decide (0 ≤ a1) = false := decide_eq_false c40
                  clear c40
                  (first | rw [c40b0] | (simp only [i64_w, i32_w]; rw [c40b0]) | skip)
                  have H' := Aside0.mk H
                  clear H
                  go_wp2
                  go_meet
                  case rel => exact ⟨_, (false), (by first | rfl | (simp; done) | (simp [*]; done)), H', ⟨by have := HK1.out; have := HJ20.out; first | omega | exact Nat.le_refl _⟩, ⟨by (with_reducible repeat (first | apply Kd.R_alloc | apply Kd.R_drewN | apply Kd.R_drew)); exact Kd.R_mono (Kd.R_far (p := ⟨gb160, 1, none⟩) (Kd.R_far (p := ⟨gb160, 0, none⟩) (Kd.R_types HO_148001.out BK160.out (by decide)) (fun _ hk => hk.2) (.int .u32 t155)) (fun _ hk => hk.2) (.slice Ao39 t156.length co39)) (fun _ hk => ⟨hk.1.1.2, hk.1.2⟩)⟩, ⟨by (with_reducible repeat (first | apply Kd.R_alloc | apply Kd.R_drewN | apply Kd.R_drew)); exact Kd.R_mono (Kd.R_far (p := ⟨gb160, 1, none⟩) (Kd.R_far (p := ⟨gb160, 0, none⟩) (Kd.R_types HO152.out BK160.out (by decide)) (fun _ hk => hk.2) (.int .u32 t155)) (fun _ hk => hk.2) (.slice Ao39 t156.length co39)) (fun _ hk => ⟨hk.1.1.2, hk.1.2⟩)⟩, ⟨by (with_reducible repeat (first | apply Kd.R_alloc | apply Kd.R_drewN | apply Kd.R_drew)); exact Kd.R_mono (Kd.R_far (p := ⟨gb160, 1, none⟩) (Kd.R_far (p := ⟨gb160, 0, none⟩) (Kd.R_types HO158.out BK160.out (by decide)) (fun _ hk => hk.2) (.int .u32 t155)) (fun _ hk => hk.2) (.slice Ao39 t156.length co39)) (fun _ hk => ⟨hk.1.1.2, hk.1.2⟩)⟩, ⟨by (with_reducible repeat (first | refine blk_drewN ?_ _ | refine blk_drew ?_ | refine blk_alloc ?_ _)); refine blk_far ?_ NB147_160.out _; (with_reducible repeat (first | refine blk_drewN ?_ _ | refine blk_drew ?_ | refine blk_alloc ?_ _)); refine blk_far ?_ NB147_160.out _; (with_reducible repeat (first | refine blk_drewN ?_ _ | refine blk_drew ?_ | refine blk_alloc ?_ _)); exact BK147.out⟩, ⟨by (with_reducible repeat (first | refine blk_drewN ?_ _ | refine blk_drew ?_ | refine blk_alloc ?_ _)); refine blk_far ?_ NB154_160.out _; (with_reducible repeat (first | refine blk_drewN ?_ _ | refine blk_drew ?_ | refine blk_alloc ?_ _)); refine blk_far ?_ NB154_160.out _; (with_reducible repeat (first | refine blk_drewN ?_ _ | refine blk_drew ?_ | refine blk_alloc ?_ _)); exact BK154.out⟩, ⟨by (with_reducible repeat (first | refine blk_drewN ?_ _ | refine blk_drew ?_ | refine blk_alloc ?_ _)); refine blk_put (cs := #[.int .u32 t155, .slice none 0 0]) ?_ 1 _ rfl; (with_reducible repeat (first | refine blk_drewN ?_ _ | refine blk_drew ?_ | refine blk_alloc ?_ _)); refine blk_put (cs := #[.int .u32 0, .slice none 0 0]) ?_ 0 _ rfl; (with_reducible repeat (first | refine blk_drewN ?_ _ | refine blk_drew ?_ | refine blk_alloc ?_ _)); exact BK160.out⟩, ⟨by repeat (first | (with_reducible first | exact HB.out | apply below_alloc | apply pw_below_drewN | apply below_drew1 | refine below_set ?_ GE147.out | refine below_set ?_ GE154.out | refine below_set ?_ GE160.out) | exact HB.out)⟩⟩
              case rest =>
                clear HC26
                try clear c1
                try clear c2
                try clear p2
                try clear c3
                try clear c4
                try clear p6
                try clear c7
                try clear c8
                try clear c9
                try clear c11
                try clear c12
                try clear c14
                try clear c14b0
                try clear c16
                try clear c16b0
                try clear c16b1
                try clear c22
                try clear c22b0
                try clear c23
                try clear c23b0
                try clear c30
                try clear c36
                try clear c37
                try clear c40
                try clear c40b0
                try clear hcz12_0
                try clear hcz12_1
                try clear hcz17_0
                try clear hcz17_1
                try clear hcz19_0
                try clear hcz19_1
                try clear hcz27_0
                try clear hcz27_1
                try clear hcz31_0
                try clear hcz31_1
                try clear hcz33_0
                try clear hcz33_1
                try clear hcz38_0
                try clear hcz38_1
                try clear hfz12_0
                try clear hfz12_1
                try clear hfz17_0
                try clear hfz17_1
                try clear hfz19_0
                try clear hfz19_1
                try clear hfz27_0
                try clear hfz27_1
                try clear hfz31_0
                try clear hfz31_1
                try clear hfz33_0
                try clear hfz33_1
                try clear hfz38_0
                try clear hfz38_1
                try clear p2
                try clear p6
                obtain ⟨kq, x21_25, rfl, HA, HJ25, HO_148001, HO_155001, HO_161001, BK147, BK154, BK160, HB⟩ := hcut
                cases kq with
                | zero => exact absurd HA.out (by simp [paternosterlaw22_CallsNone.j2])
                | succ kj25 =>
                  have H := HA.out
                  clear HA
                  simp only [paternosterlaw22_CallsNone.j2] at H
                  have HC41 := Aside0.mk H
                  clear H
                  go_upto_region 16 with (fail)
                  go_cut [120] (fun v120 wc => ∃ (kq : Nat) (x120_40 : Bool), v120 = .bool x120_40 ∧ Aside0 (paternosterlaw22_CallsNone.j3 kq a0 a1 a2 (t144.length : Int) x120_40 t143 t144 = some r) ∧ Aside0 (kq ≤ kj25) ∧ Aside0 (Kd.R (Kd.int .u32) 23 wc w.heap.size (fun k_ => some k_ ≠ ((.slice Ao32 t150.length co32) : Value).ownBlock ∧ some k_ ≠ ((.slice Ao39 t156.length co39) : Value).ownBlock) (.slice Ao13 t144.length co13) t144) ∧ Aside0 (Kd.R (Kd.int .u32) 23 wc w.heap.size (fun k_ => some k_ ≠ ((.slice Ao13 t144.length co13) : Value).ownBlock ∧ some k_ ≠ ((.slice Ao39 t156.length co39) : Value).ownBlock) (.slice Ao32 t150.length co32) t150) ∧ Aside0 (Kd.R (Kd.int .u32) 23 wc w.heap.size (fun k_ => some k_ ≠ ((.slice Ao13 t144.length co13) : Value).ownBlock ∧ some k_ ≠ ((.slice Ao32 t150.length co32) : Value).ownBlock) (.slice Ao39 t156.length co39) t156) ∧ Aside0 (wc.heap[gb147]? = some (.cells #[.int .u32 t143, (.slice Ao13 t144.length co13)] 27 (0, 0))) ∧ Aside0 (wc.heap[gb154]? = some (.cells #[.int .u32 t149, (.slice Ao32 t150.length co32)] 27 (0, 0))) ∧ Aside0 (wc.heap[gb160]? = some (.cells #[.int .u32 t155, (.slice Ao39 t156.length co39)] 27 (0, 0))) ∧ Aside0 (Below w.heap.size w wc))
                  case first =>
                    have H := HC41.out
                    clear HC41
                    by_cases c42 : (t153 != x16_20) = true
                    · rw [if_pos c42] at H
                      have c42b0 : (t153 != x16_20) = true := c42
                      (try (have c42b1 : decide (t153 = x16_20) = false := by simpa using c42))
                      (try (have c42b2 : (t153 == x16_20) = false := by simpa using c42))
                      (try (have c42b3 : ¬ (t153 = x16_20) := by simpa using c42))
                      clear c42
                      (first | rw [c42b0] | (simp only [i64_w, i32_w]; rw [c42b0]) | skip)
                      have H' := Aside0.mk H
                      clear H
                      go_wp2
                      go_meet
                      case rel => exact ⟨_, (true), (by first | rfl | (simp; done) | (simp [*]; done)), H', ⟨by have := HK1.out; have := HJ20.out; have := HJ25.out; first | omega | exact Nat.le_refl _⟩, ⟨by (with_reducible repeat (first | apply Kd.R_alloc | apply Kd.R_drewN | apply Kd.R_drew)); exact HO_148001.out⟩, ⟨by (with_reducible repeat (first | apply Kd.R_alloc | apply Kd.R_drewN | apply Kd.R_drew)); exact HO_155001.out⟩, ⟨by (with_reducible repeat (first | apply Kd.R_alloc | apply Kd.R_drewN | apply Kd.R_drew)); exact HO_161001.out⟩, ⟨by (with_reducible repeat (first | refine blk_drewN ?_ _ | refine blk_drew ?_ | refine blk_alloc ?_ _)); exact BK147.out⟩, ⟨by (with_reducible repeat (first | refine blk_drewN ?_ _ | refine blk_drew ?_ | refine blk_alloc ?_ _)); exact BK154.out⟩, ⟨by (with_reducible repeat (first | refine blk_drewN ?_ _ | refine blk_drew ?_ | refine blk_alloc ?_ _)); exact BK160.out⟩, ⟨by repeat (first | (with_reducible first | exact HB.out | apply below_alloc | apply pw_below_drewN | apply below_drew1 | refine below_set ?_ GE147.out | refine below_set ?_ GE154.out | refine below_set ?_ GE160.out) | exact HB.out)⟩⟩
                    · rw [if_neg c42] at H
                      have c42b0 : (t153 != x16_20) = false := by simpa using c42
                      (try (have c42b1 : decide (t153 = x16_20) = true := by simpa using c42))
                      (try (have c42b2 : (t153 == x16_20) = true := by simpa using c42))
                      clear c42
                      (first | rw [c42b0] | (simp only [i64_w, i32_w]; rw [c42b0]) | skip)
                      by_cases c43 : x16_20 = true
                      · subst c43
                        have H1 : (if (t159 != x21_25) = true then (paternosterlaw22_CallsNone.j3 kj25 a0 a1 a2 (t144.length : Int) true t143 t144) else (if t153 = true then (if t159 = true then ((calls_Calls_Many.f t149 t150).bind fun t161 => (if t161 = 1 then ((calls_Calls_Many.f t155 t156).bind fun t162 => (paternosterlaw22_CallsNone.j3 kj25 a0 a1 a2 (t144.length : Int) (t162 != 1) t143 t144)) else (paternosterlaw22_CallsNone.j3 kj25 a0 a1 a2 (t144.length : Int) true t143 t144))) else ((calls_Calls_Many.f t155 t156).bind fun t163 => (if t163 = 0 then ((calls_Calls_Many.f t149 t150).bind fun t164 => (if t164 = 1 then (paternosterlaw22_CallsNone.j3 kj25 a0 a1 a2 (t144.length : Int) false t143 t144) else (paternosterlaw22_CallsNone.j3 kj25 a0 a1 a2 (t144.length : Int) true t143 t144))) else (paternosterlaw22_CallsNone.j3 kj25 a0 a1 a2 (t144.length : Int) true t143 t144)))) else ((calls_Calls_Many.f t149 t150).bind fun t165 => (if t165 = 0 then (if t159 = true then ((calls_Calls_Many.f t155 t156).bind fun t166 => (paternosterlaw22_CallsNone.j3 kj25 a0 a1 a2 (t144.length : Int) (t166 != 1) t143 t144)) else ((calls_Calls_Many.f t155 t156).bind fun t167 => (if t167 = 0 then (paternosterlaw22_CallsNone.j3 kj25 a0 a1 a2 (t144.length : Int) false t143 t144) else (paternosterlaw22_CallsNone.j3 kj25 a0 a1 a2 (t144.length : Int) true t143 t144)))) else (paternosterlaw22_CallsNone.j3 kj25 a0 a1 a2 (t144.length : Int) true t143 t144))))) = some r := by rw [if_pos rfl] at H; exact H
                        clear H
                        have H := H1
                        clear H1
                        by_cases c44 : (t159 != x21_25) = true
                        · rw [if_pos c44] at H
                          have c44b0 : (t159 != x21_25) = true := c44
                          (try (have c44b1 : decide (t159 = x21_25) = false := by simpa using c44))
                          (try (have c44b2 : (t159 == x21_25) = false := by simpa using c44))
                          (try (have c44b3 : ¬ (t159 = x21_25) := by simpa using c44))
                          clear c44
                          have H' := Aside0.mk H
                          clear H
                          go_wp2
                          go_meet
                          case rel => exact ⟨_, (true), (by first | rfl | (simp; done) | (simp [*]; done)), H', ⟨by have := HK1.out; have := HJ20.out; have := HJ25.out; first | omega | exact Nat.le_refl _⟩, ⟨by (with_reducible repeat (first | apply Kd.R_alloc | apply Kd.R_drewN | apply Kd.R_drew)); exact HO_148001.out⟩, ⟨by (with_reducible repeat (first | apply Kd.R_alloc | apply Kd.R_drewN | apply Kd.R_drew)); exact HO_155001.out⟩, ⟨by (with_reducible repeat (first | apply Kd.R_alloc | apply Kd.R_drewN | apply Kd.R_drew)); exact HO_161001.out⟩, ⟨by (with_reducible repeat (first | refine blk_drewN ?_ _ | refine blk_drew ?_ | refine blk_alloc ?_ _)); exact BK147.out⟩, ⟨by (with_reducible repeat (first | refine blk_drewN ?_ _ | refine blk_drew ?_ | refine blk_alloc ?_ _)); exact BK154.out⟩, ⟨by (with_reducible repeat (first | refine blk_drewN ?_ _ | refine blk_drew ?_ | refine blk_alloc ?_ _)); exact BK160.out⟩, ⟨by repeat (first | (with_reducible first | exact HB.out | apply below_alloc | apply pw_below_drewN | apply below_drew1 | refine below_set ?_ GE147.out | refine below_set ?_ GE154.out | refine below_set ?_ GE160.out) | exact HB.out)⟩⟩
                        · rw [if_neg c44] at H
                          have c44b0 : (t159 != x21_25) = false := by simpa using c44
                          (try (have c44b1 : decide (t159 = x21_25) = true := by simpa using c44))
                          (try (have c44b2 : (t159 == x21_25) = true := by simpa using c44))
                          clear c44
                          by_cases c45 : t153 = true
                          · subst c45
                            have H1 : (if t159 = true then ((calls_Calls_Many.f t149 t150).bind fun t161 => (if t161 = 1 then ((calls_Calls_Many.f t155 t156).bind fun t162 => (paternosterlaw22_CallsNone.j3 kj25 a0 a1 a2 (t144.length : Int) (t162 != 1) t143 t144)) else (paternosterlaw22_CallsNone.j3 kj25 a0 a1 a2 (t144.length : Int) true t143 t144))) else ((calls_Calls_Many.f t155 t156).bind fun t163 => (if t163 = 0 then ((calls_Calls_Many.f t149 t150).bind fun t164 => (if t164 = 1 then (paternosterlaw22_CallsNone.j3 kj25 a0 a1 a2 (t144.length : Int) false t143 t144) else (paternosterlaw22_CallsNone.j3 kj25 a0 a1 a2 (t144.length : Int) true t143 t144))) else (paternosterlaw22_CallsNone.j3 kj25 a0 a1 a2 (t144.length : Int) true t143 t144)))) = some r := by rw [if_pos rfl] at H; exact H
                            clear H
                            have H := H1
                            clear H1
                            by_cases c46 : t159 = true
                            · subst c46
                              have H1 : ((calls_Calls_Many.f t149 t150).bind fun t161 => (if t161 = 1 then ((calls_Calls_Many.f t155 t156).bind fun t162 => (paternosterlaw22_CallsNone.j3 kj25 a0 a1 a2 (t144.length : Int) (t162 != 1) t143 t144)) else (paternosterlaw22_CallsNone.j3 kj25 a0 a1 a2 (t144.length : Int) true t143 t144))) = some r := by rw [if_pos rfl] at H; exact H
                              clear H
                              have H := H1
                              clear H1
                              replace H := Option.bind_eq_some_iff.mp H
                              obtain ⟨t161, A470, H⟩ := H
                              replace H : (if t161 = 1 then ((calls_Calls_Many.f t155 t156).bind fun t162 => (paternosterlaw22_CallsNone.j3 kj25 a0 a1 a2 (t144.length : Int) (t162 != 1) t143 t144)) else (paternosterlaw22_CallsNone.j3 kj25 a0 a1 a2 (t144.length : Int) true t143 t144)) = some r := H
                              have A47 := Aside0.mk A470
                              clear A470
                              by_cases c48 : t161 = 1
                              · rw [if_pos c48] at H
                                have c48b0 : (t161 == 1) = true := beq_iff_eq.mpr c48
                                have c48b1 : (t161 != 1) = false := bne_eq_false_iff_eq.mpr c48
                                clear c48
                                replace H := Option.bind_eq_some_iff.mp H
                                obtain ⟨t162, A490, H⟩ := H
                                replace H : (paternosterlaw22_CallsNone.j3 kj25 a0 a1 a2 (t144.length : Int) (t162 != 1) t143 t144) = some r := H
                                have A49 := Aside0.mk A490
                                clear A490
                                have H' := Aside0.mk H
                                clear H
                                have hnb50 := NB154_147.out
                                have hnc50 := NB147_154.out
                                have hnb51 := NB154_160.out
                                have hnc51 := NB160_154.out
                                have hcz52_0 : wc.cell? ⟨gb154, 0, none⟩ = some (.int .u32 t149) := (blk_cell BK154.out 0).trans rfl
                                have hcz52_1 : wc.cell? ⟨gb154, 1, none⟩ = some (.slice Ao32 t150.length co32) := (blk_cell BK154.out 1).trans rfl
                                have hfz52_0 := blk_frozen BK154.out 0
                                have hfz52_1 := blk_frozen BK154.out 1
                                go_wp2_with (first | (go_at_call 18; (with_reducible refine (calls_Calls_Many.calls t149 _ _ t150 t161 _ ?side1 ?side2 A47.out).mono ?_); (case side1 => repeat (first | exact (Kd.R_reads' HO_155001.out).2.2 | (with_reducible refine Kd.C_alloc ?_ _) | (with_reducible refine Kd.C_drewN ?_ _) | (with_reducible refine Kd.C_drew ?_))); (case side2 => exact (Kd.R_reads' HO_155001.out).2.1); rintro e w53 ⟨rfl, hb⟩; have n0_ := Aside0.mk (Kd.R_below (by (with_reducible repeat (first | apply Kd.R_alloc | apply Kd.R_drewN | apply Kd.R_drew)); exact HO_148001.out) hb); have n1_ := Aside0.mk (Kd.R_below (by (with_reducible repeat (first | apply Kd.R_alloc | apply Kd.R_drewN | apply Kd.R_drew)); exact HO_155001.out) hb); have n2_ := Aside0.mk (Kd.R_below (by (with_reducible repeat (first | apply Kd.R_alloc | apply Kd.R_drewN | apply Kd.R_drew)); exact HO_161001.out) hb); have n3_ := Aside0.mk (blk_below (g := gb147) (o := .cells #[.int .u32 t143, .slice Ao13 t144.length co13] 27 (0, 0)) (by (with_reducible repeat (first | refine blk_drewN ?_ _ | refine blk_drew ?_ | refine blk_alloc ?_ _)); exact BK147.out) hb); have n4_ := Aside0.mk (blk_below (g := gb154) (o := .cells #[.int .u32 t149, .slice Ao32 t150.length co32] 27 (0, 0)) (by (with_reducible repeat (first | refine blk_drewN ?_ _ | refine blk_drew ?_ | refine blk_alloc ?_ _)); exact BK154.out) hb); have n5_ := Aside0.mk (blk_below (g := gb160) (o := .cells #[.int .u32 t155, .slice Ao39 t156.length co39] 27 (0, 0)) (by (with_reducible repeat (first | refine blk_drewN ?_ _ | refine blk_drew ?_ | refine blk_alloc ?_ _)); exact BK160.out) hb); have n6_ := Aside0.mk (below_step (by repeat (first | (with_reducible first | exact HB.out | apply below_alloc | apply pw_below_drewN | apply below_drew1 | refine below_set ?_ GE147.out | refine below_set ?_ GE154.out | refine below_set ?_ GE160.out) | exact HB.out)) hb); clear HO_148001; clear HO_155001; clear HO_161001; clear BK147; clear BK154; clear BK160; clear HB; have HO_148001 := n0_; have HO_155001 := n1_; have HO_161001 := n2_; have BK147 := n3_; have BK154 := n4_; have BK160 := n5_; have HB := n6_; clear n0_ n1_ n2_ n3_ n4_ n5_ n6_; (try clear hb); (try clear hb2); (try clear hk); (try clear hi); have hnb54 := NB160_147.out; have hnc54 := NB147_160.out; have hcz55_0 : w53.cell? ⟨gb160, 0, none⟩ = some (.int .u32 t155) := (blk_cell BK160.out 0).trans rfl; have hcz55_1 : w53.cell? ⟨gb160, 1, none⟩ = some (.slice Ao39 t156.length co39) := (blk_cell BK160.out 1).trans rfl; have hfz55_0 := blk_frozen BK160.out 0; have hfz55_1 := blk_frozen BK160.out 1) | (go_at_call 18; (with_reducible refine (calls_Calls_Many.calls t155 _ _ t156 t162 _ ?side1 ?side2 A49.out).mono ?_); (case side1 => repeat (first | exact (Kd.R_reads' HO_161001.out).2.2 | (with_reducible refine Kd.C_alloc ?_ _) | (with_reducible refine Kd.C_drewN ?_ _) | (with_reducible refine Kd.C_drew ?_))); (case side2 => exact (Kd.R_reads' HO_161001.out).2.1); rintro e w56 ⟨rfl, hb⟩; have n0_ := Aside0.mk (Kd.R_below (by (with_reducible repeat (first | apply Kd.R_alloc | apply Kd.R_drewN | apply Kd.R_drew)); exact HO_148001.out) hb); have n1_ := Aside0.mk (Kd.R_below (by (with_reducible repeat (first | apply Kd.R_alloc | apply Kd.R_drewN | apply Kd.R_drew)); exact HO_155001.out) hb); have n2_ := Aside0.mk (Kd.R_below (by (with_reducible repeat (first | apply Kd.R_alloc | apply Kd.R_drewN | apply Kd.R_drew)); exact HO_161001.out) hb); have n3_ := Aside0.mk (blk_below (g := gb147) (o := .cells #[.int .u32 t143, .slice Ao13 t144.length co13] 27 (0, 0)) (by (with_reducible repeat (first | refine blk_drewN ?_ _ | refine blk_drew ?_ | refine blk_alloc ?_ _)); exact BK147.out) hb); have n4_ := Aside0.mk (blk_below (g := gb154) (o := .cells #[.int .u32 t149, .slice Ao32 t150.length co32] 27 (0, 0)) (by (with_reducible repeat (first | refine blk_drewN ?_ _ | refine blk_drew ?_ | refine blk_alloc ?_ _)); exact BK154.out) hb); have n5_ := Aside0.mk (blk_below (g := gb160) (o := .cells #[.int .u32 t155, .slice Ao39 t156.length co39] 27 (0, 0)) (by (with_reducible repeat (first | refine blk_drewN ?_ _ | refine blk_drew ?_ | refine blk_alloc ?_ _)); exact BK160.out) hb); have n6_ := Aside0.mk (below_step (by repeat (first | (with_reducible first | exact HB.out | apply below_alloc | apply pw_below_drewN | apply below_drew1 | refine below_set ?_ GE147.out | refine below_set ?_ GE154.out | refine below_set ?_ GE160.out) | exact HB.out)) hb); clear HO_148001; clear HO_155001; clear HO_161001; clear BK147; clear BK154; clear BK160; clear HB; have HO_148001 := n0_; have HO_155001 := n1_; have HO_161001 := n2_; have BK147 := n3_; have BK154 := n4_; have BK160 := n5_; have HB := n6_; clear n0_ n1_ n2_ n3_ n4_ n5_ n6_; (try clear hb); (try clear hb2); (try clear hk); (try clear hi)))
                                go_meet
                                case rel => exact ⟨_, ((t162 != 1)), (by first | rfl | (simp; done) | (simp [*]; done)), H', ⟨by have := HK1.out; have := HJ20.out; have := HJ25.out; first | omega | exact Nat.le_refl _⟩, ⟨by (with_reducible repeat (first | apply Kd.R_alloc | apply Kd.R_drewN | apply Kd.R_drew)); exact HO_148001.out⟩, ⟨by (with_reducible repeat (first | apply Kd.R_alloc | apply Kd.R_drewN | apply Kd.R_drew)); exact HO_155001.out⟩, ⟨by (with_reducible repeat (first | apply Kd.R_alloc | apply Kd.R_drewN | apply Kd.R_drew)); exact HO_161001.out⟩, ⟨by (with_reducible repeat (first | refine blk_drewN ?_ _ | refine blk_drew ?_ | refine blk_alloc ?_ _)); exact BK147.out⟩, ⟨by (with_reducible repeat (first | refine blk_drewN ?_ _ | refine blk_drew ?_ | refine blk_alloc ?_ _)); exact BK154.out⟩, ⟨by (with_reducible repeat (first | refine blk_drewN ?_ _ | refine blk_drew ?_ | refine blk_alloc ?_ _)); exact BK160.out⟩, ⟨by repeat (first | (with_reducible first | exact HB.out | apply below_alloc | apply pw_below_drewN | apply below_drew1 | refine below_set ?_ GE147.out | refine below_set ?_ GE154.out | refine below_set ?_ GE160.out) | exact HB.out)⟩⟩
                              · rw [if_neg c48] at H
                                have c48b0 : (t161 == 1) = false := beq_eq_false_iff_ne.mpr c48
                                have c48b1 : (t161 != 1) = true := bne_iff_ne.mpr c48
                                have H' := Aside0.mk H
                                clear H
                                have hnb57 := NB154_147.out
                                have hnc57 := NB147_154.out
                                have hnb58 := NB154_160.out
                                have hnc58 := NB160_154.out
                                have hcz59_0 : wc.cell? ⟨gb154, 0, none⟩ = some (.int .u32 t149) := (blk_cell BK154.out 0).trans rfl
                                have hcz59_1 : wc.cell? ⟨gb154, 1, none⟩ = some (.slice Ao32 t150.length co32) := (blk_cell BK154.out 1).trans rfl
                                have hfz59_0 := blk_frozen BK154.out 0
                                have hfz59_1 := blk_frozen BK154.out 1
                                go_wp2_with (first | (go_at_call 18; (with_reducible refine (calls_Calls_Many.calls t149 _ _ t150 t161 _ ?side1 ?side2 A47.out).mono ?_); (case side1 => repeat (first | exact (Kd.R_reads' HO_155001.out).2.2 | (with_reducible refine Kd.C_alloc ?_ _) | (with_reducible refine Kd.C_drewN ?_ _) | (with_reducible refine Kd.C_drew ?_))); (case side2 => exact (Kd.R_reads' HO_155001.out).2.1); rintro e w60 ⟨rfl, hb⟩; have n0_ := Aside0.mk (Kd.R_below (by (with_reducible repeat (first | apply Kd.R_alloc | apply Kd.R_drewN | apply Kd.R_drew)); exact HO_148001.out) hb); have n1_ := Aside0.mk (Kd.R_below (by (with_reducible repeat (first | apply Kd.R_alloc | apply Kd.R_drewN | apply Kd.R_drew)); exact HO_155001.out) hb); have n2_ := Aside0.mk (Kd.R_below (by (with_reducible repeat (first | apply Kd.R_alloc | apply Kd.R_drewN | apply Kd.R_drew)); exact HO_161001.out) hb); have n3_ := Aside0.mk (blk_below (g := gb147) (o := .cells #[.int .u32 t143, .slice Ao13 t144.length co13] 27 (0, 0)) (by (with_reducible repeat (first | refine blk_drewN ?_ _ | refine blk_drew ?_ | refine blk_alloc ?_ _)); exact BK147.out) hb); have n4_ := Aside0.mk (blk_below (g := gb154) (o := .cells #[.int .u32 t149, .slice Ao32 t150.length co32] 27 (0, 0)) (by (with_reducible repeat (first | refine blk_drewN ?_ _ | refine blk_drew ?_ | refine blk_alloc ?_ _)); exact BK154.out) hb); have n5_ := Aside0.mk (blk_below (g := gb160) (o := .cells #[.int .u32 t155, .slice Ao39 t156.length co39] 27 (0, 0)) (by (with_reducible repeat (first | refine blk_drewN ?_ _ | refine blk_drew ?_ | refine blk_alloc ?_ _)); exact BK160.out) hb); have n6_ := Aside0.mk (below_step (by repeat (first | (with_reducible first | exact HB.out | apply below_alloc | apply pw_below_drewN | apply below_drew1 | refine below_set ?_ GE147.out | refine below_set ?_ GE154.out | refine below_set ?_ GE160.out) | exact HB.out)) hb); clear HO_148001; clear HO_155001; clear HO_161001; clear BK147; clear BK154; clear BK160; clear HB; have HO_148001 := n0_; have HO_155001 := n1_; have HO_161001 := n2_; have BK147 := n3_; have BK154 := n4_; have BK160 := n5_; have HB := n6_; clear n0_ n1_ n2_ n3_ n4_ n5_ n6_; (try clear hb); (try clear hb2); (try clear hk); (try clear hi)))
                                go_meet
                                case rel => exact ⟨_, (true), (by first | rfl | (simp; done) | (simp [*]; done)), H', ⟨by have := HK1.out; have := HJ20.out; have := HJ25.out; first | omega | exact Nat.le_refl _⟩, ⟨by (with_reducible repeat (first | apply Kd.R_alloc | apply Kd.R_drewN | apply Kd.R_drew)); exact HO_148001.out⟩, ⟨by (with_reducible repeat (first | apply Kd.R_alloc | apply Kd.R_drewN | apply Kd.R_drew)); exact HO_155001.out⟩, ⟨by (with_reducible repeat (first | apply Kd.R_alloc | apply Kd.R_drewN | apply Kd.R_drew)); exact HO_161001.out⟩, ⟨by (with_reducible repeat (first | refine blk_drewN ?_ _ | refine blk_drew ?_ | refine blk_alloc ?_ _)); exact BK147.out⟩, ⟨by (with_reducible repeat (first | refine blk_drewN ?_ _ | refine blk_drew ?_ | refine blk_alloc ?_ _)); exact BK154.out⟩, ⟨by (with_reducible repeat (first | refine blk_drewN ?_ _ | refine blk_drew ?_ | refine blk_alloc ?_ _)); exact BK160.out⟩, ⟨by repeat (first | (with_reducible first | exact HB.out | apply below_alloc | apply pw_below_drewN | apply below_drew1 | refine below_set ?_ GE147.out | refine below_set ?_ GE154.out | refine below_set ?_ GE160.out) | exact HB.out)⟩⟩
                            · replace c46 := Bool.eq_false_iff.mpr c46
                              subst c46
                              have H1 : ((calls_Calls_Many.f t155 t156).bind fun t163 => (if t163 = 0 then ((calls_Calls_Many.f t149 t150).bind fun t164 => (if t164 = 1 then (paternosterlaw22_CallsNone.j3 kj25 a0 a1 a2 (t144.length : Int) false t143 t144) else (paternosterlaw22_CallsNone.j3 kj25 a0 a1 a2 (t144.length : Int) true t143 t144))) else (paternosterlaw22_CallsNone.j3 kj25 a0 a1 a2 (t144.length : Int) true t143 t144))) = some r := by rw [if_neg (show ¬ (false = true) by decide)] at H; exact H
                              clear H
                              have H := H1
                              clear H1
                              replace H := Option.bind_eq_some_iff.mp H
                              obtain ⟨t163, A610, H⟩ := H
                              replace H : (if t163 = 0 then ((calls_Calls_Many.f t149 t150).bind fun t164 => (if t164 = 1 then (paternosterlaw22_CallsNone.j3 kj25 a0 a1 a2 (t144.length : Int) false t143 t144) else (paternosterlaw22_CallsNone.j3 kj25 a0 a1 a2 (t144.length : Int) true t143 t144))) else (paternosterlaw22_CallsNone.j3 kj25 a0 a1 a2 (t144.length : Int) true t143 t144)) = some r := H
                              have A61 := Aside0.mk A610
                              clear A610
                              by_cases c62 : t163 = 0
                              · rw [if_pos c62] at H
                                have c62b0 : (t163 == 0) = true := beq_iff_eq.mpr c62
                                have c62b1 : (t163 != 0) = false := bne_eq_false_iff_eq.mpr c62
                                clear c62
                                replace H := Option.bind_eq_some_iff.mp H
                                obtain ⟨t164, A630, H⟩ := H
                                replace H : (if t164 = 1 then (paternosterlaw22_CallsNone.j3 kj25 a0 a1 a2 (t144.length : Int) false t143 t144) else (paternosterlaw22_CallsNone.j3 kj25 a0 a1 a2 (t144.length : Int) true t143 t144)) = some r := H
                                have A63 := Aside0.mk A630
                                clear A630
                                by_cases c64 : t164 = 1
                                · rw [if_pos c64] at H
                                  have c64b0 : (t164 == 1) = true := beq_iff_eq.mpr c64
                                  have c64b1 : (t164 != 1) = false := bne_eq_false_iff_eq.mpr c64
                                  clear c64
                                  have H' := Aside0.mk H
                                  clear H
                                  have hnb65 := NB160_147.out
                                  have hnc65 := NB147_160.out
                                  have hnb66 := NB160_154.out
                                  have hnc66 := NB154_160.out
                                  have hcz67_0 : wc.cell? ⟨gb160, 0, none⟩ = some (.int .u32 t155) := (blk_cell BK160.out 0).trans rfl
                                  have hcz67_1 : wc.cell? ⟨gb160, 1, none⟩ = some (.slice Ao39 t156.length co39) := (blk_cell BK160.out 1).trans rfl
                                  have hfz67_0 := blk_frozen BK160.out 0
                                  have hfz67_1 := blk_frozen BK160.out 1
                                  go_wp2_with (first | (go_at_call 18; (with_reducible refine (calls_Calls_Many.calls t155 _ _ t156 t163 _ ?side1 ?side2 A61.out).mono ?_); (case side1 => repeat (first | exact (Kd.R_reads' HO_161001.out).2.2 | (with_reducible refine Kd.C_alloc ?_ _) | (with_reducible refine Kd.C_drewN ?_ _) | (with_reducible refine Kd.C_drew ?_))); (case side2 => exact (Kd.R_reads' HO_161001.out).2.1); rintro e w68 ⟨rfl, hb⟩; have n0_ := Aside0.mk (Kd.R_below (by (with_reducible repeat (first | apply Kd.R_alloc | apply Kd.R_drewN | apply Kd.R_drew)); exact HO_148001.out) hb); have n1_ := Aside0.mk (Kd.R_below (by (with_reducible repeat (first | apply Kd.R_alloc | apply Kd.R_drewN | apply Kd.R_drew)); exact HO_155001.out) hb); have n2_ := Aside0.mk (Kd.R_below (by (with_reducible repeat (first | apply Kd.R_alloc | apply Kd.R_drewN | apply Kd.R_drew)); exact HO_161001.out) hb); have n3_ := Aside0.mk (blk_below (g := gb147) (o := .cells #[.int .u32 t143, .slice Ao13 t144.length co13] 27 (0, 0)) (by (with_reducible repeat (first | refine blk_drewN ?_ _ | refine blk_drew ?_ | refine blk_alloc ?_ _)); exact BK147.out) hb); have n4_ := Aside0.mk (blk_below (g := gb154) (o := .cells #[.int .u32 t149, .slice Ao32 t150.length co32] 27 (0, 0)) (by (with_reducible repeat (first | refine blk_drewN ?_ _ | refine blk_drew ?_ | refine blk_alloc ?_ _)); exact BK154.out) hb); have n5_ := Aside0.mk (blk_below (g := gb160) (o := .cells #[.int .u32 t155, .slice Ao39 t156.length co39] 27 (0, 0)) (by (with_reducible repeat (first | refine blk_drewN ?_ _ | refine blk_drew ?_ | refine blk_alloc ?_ _)); exact BK160.out) hb); have n6_ := Aside0.mk (below_step (by repeat (first | (with_reducible first | exact HB.out | apply below_alloc | apply pw_below_drewN | apply below_drew1 | refine below_set ?_ GE147.out | refine below_set ?_ GE154.out | refine below_set ?_ GE160.out) | exact HB.out)) hb); clear HO_148001; clear HO_155001; clear HO_161001; clear BK147; clear BK154; clear BK160; clear HB; have HO_148001 := n0_; have HO_155001 := n1_; have HO_161001 := n2_; have BK147 := n3_; have BK154 := n4_; have BK160 := n5_; have HB := n6_; clear n0_ n1_ n2_ n3_ n4_ n5_ n6_; (try clear hb); (try clear hb2); (try clear hk); (try clear hi); have hnb69 := NB154_147.out; have hnc69 := NB147_154.out; have hcz70_0 : w68.cell? ⟨gb154, 0, none⟩ = some (.int .u32 t149) := (blk_cell BK154.out 0).trans rfl; have hcz70_1 : w68.cell? ⟨gb154, 1, none⟩ = some (.slice Ao32 t150.length co32) := (blk_cell BK154.out 1).trans rfl; have hfz70_0 := blk_frozen BK154.out 0; have hfz70_1 := blk_frozen BK154.out 1) | (go_at_call 18; (with_reducible refine (calls_Calls_Many.calls t149 _ _ t150 t164 _ ?side1 ?side2 A63.out).mono ?_); (case side1 => repeat (first | exact (Kd.R_reads' HO_155001.out).2.2 | (with_reducible refine Kd.C_alloc ?_ _) | (with_reducible refine Kd.C_drewN ?_ _) | (with_reducible refine Kd.C_drew ?_))); (case side2 => exact (Kd.R_reads' HO_155001.out).2.1); rintro e w71 ⟨rfl, hb⟩; have n0_ := Aside0.mk (Kd.R_below (by (with_reducible repeat (first | apply Kd.R_alloc | apply Kd.R_drewN | apply Kd.R_drew)); exact HO_148001.out) hb); have n1_ := Aside0.mk (Kd.R_below (by (with_reducible repeat (first | apply Kd.R_alloc | apply Kd.R_drewN | apply Kd.R_drew)); exact HO_155001.out) hb); have n2_ := Aside0.mk (Kd.R_below (by (with_reducible repeat (first | apply Kd.R_alloc | apply Kd.R_drewN | apply Kd.R_drew)); exact HO_161001.out) hb); have n3_ := Aside0.mk (blk_below (g := gb147) (o := .cells #[.int .u32 t143, .slice Ao13 t144.length co13] 27 (0, 0)) (by (with_reducible repeat (first | refine blk_drewN ?_ _ | refine blk_drew ?_ | refine blk_alloc ?_ _)); exact BK147.out) hb); have n4_ := Aside0.mk (blk_below (g := gb154) (o := .cells #[.int .u32 t149, .slice Ao32 t150.length co32] 27 (0, 0)) (by (with_reducible repeat (first | refine blk_drewN ?_ _ | refine blk_drew ?_ | refine blk_alloc ?_ _)); exact BK154.out) hb); have n5_ := Aside0.mk (blk_below (g := gb160) (o := .cells #[.int .u32 t155, .slice Ao39 t156.length co39] 27 (0, 0)) (by (with_reducible repeat (first | refine blk_drewN ?_ _ | refine blk_drew ?_ | refine blk_alloc ?_ _)); exact BK160.out) hb); have n6_ := Aside0.mk (below_step (by repeat (first | (with_reducible first | exact HB.out | apply below_alloc | apply pw_below_drewN | apply below_drew1 | refine below_set ?_ GE147.out | refine below_set ?_ GE154.out | refine below_set ?_ GE160.out) | exact HB.out)) hb); clear HO_148001; clear HO_155001; clear HO_161001; clear BK147; clear BK154; clear BK160; clear HB; have HO_148001 := n0_; have HO_155001 := n1_; have HO_161001 := n2_; have BK147 := n3_; have BK154 := n4_; have BK160 := n5_; have HB := n6_; clear n0_ n1_ n2_ n3_ n4_ n5_ n6_; (try clear hb); (try clear hb2); (try clear hk); (try clear hi)))
                                  go_meet
                                  case rel => exact ⟨_, (false), (by first | rfl | (simp; done) | (simp [*]; done)), H', ⟨by have := HK1.out; have := HJ20.out; have := HJ25.out; first | omega | exact Nat.le_refl _⟩, ⟨by (with_reducible repeat (first | apply Kd.R_alloc | apply Kd.R_drewN | apply Kd.R_drew)); exact HO_148001.out⟩, ⟨by (with_reducible repeat (first | apply Kd.R_alloc | apply Kd.R_drewN | apply Kd.R_drew)); exact HO_155001.out⟩, ⟨by (with_reducible repeat (first | apply Kd.R_alloc | apply Kd.R_drewN | apply Kd.R_drew)); exact HO_161001.out⟩, ⟨by (with_reducible repeat (first | refine blk_drewN ?_ _ | refine blk_drew ?_ | refine blk_alloc ?_ _)); exact BK147.out⟩, ⟨by (with_reducible repeat (first | refine blk_drewN ?_ _ | refine blk_drew ?_ | refine blk_alloc ?_ _)); exact BK154.out⟩, ⟨by (with_reducible repeat (first | refine blk_drewN ?_ _ | refine blk_drew ?_ | refine blk_alloc ?_ _)); exact BK160.out⟩, ⟨by repeat (first | (with_reducible first | exact HB.out | apply below_alloc | apply pw_below_drewN | apply below_drew1 | refine below_set ?_ GE147.out | refine below_set ?_ GE154.out | refine below_set ?_ GE160.out) | exact HB.out)⟩⟩
                                · rw [if_neg c64] at H
                                  have c64b0 : (t164 == 1) = false := beq_eq_false_iff_ne.mpr c64
                                  have c64b1 : (t164 != 1) = true := bne_iff_ne.mpr c64
                                  have H' := Aside0.mk H
                                  clear H
                                  have hnb72 := NB160_147.out
                                  have hnc72 := NB147_160.out
                                  have hnb73 := NB160_154.out
                                  have hnc73 := NB154_160.out
                                  have hcz74_0 : wc.cell? ⟨gb160, 0, none⟩ = some (.int .u32 t155) := (blk_cell BK160.out 0).trans rfl
                                  have hcz74_1 : wc.cell? ⟨gb160, 1, none⟩ = some (.slice Ao39 t156.length co39) := (blk_cell BK160.out 1).trans rfl
                                  have hfz74_0 := blk_frozen BK160.out 0
                                  have hfz74_1 := blk_frozen BK160.out 1
                                  go_wp2_with (first | (go_at_call 18; (with_reducible refine (calls_Calls_Many.calls t155 _ _ t156 t163 _ ?side1 ?side2 A61.out).mono ?_); (case side1 => repeat (first | exact (Kd.R_reads' HO_161001.out).2.2 | (with_reducible refine Kd.C_alloc ?_ _) | (with_reducible refine Kd.C_drewN ?_ _) | (with_reducible refine Kd.C_drew ?_))); (case side2 => exact (Kd.R_reads' HO_161001.out).2.1); rintro e w75 ⟨rfl, hb⟩; have n0_ := Aside0.mk (Kd.R_below (by (with_reducible repeat (first | apply Kd.R_alloc | apply Kd.R_drewN | apply Kd.R_drew)); exact HO_148001.out) hb); have n1_ := Aside0.mk (Kd.R_below (by (with_reducible repeat (first | apply Kd.R_alloc | apply Kd.R_drewN | apply Kd.R_drew)); exact HO_155001.out) hb); have n2_ := Aside0.mk (Kd.R_below (by (with_reducible repeat (first | apply Kd.R_alloc | apply Kd.R_drewN | apply Kd.R_drew)); exact HO_161001.out) hb); have n3_ := Aside0.mk (blk_below (g := gb147) (o := .cells #[.int .u32 t143, .slice Ao13 t144.length co13] 27 (0, 0)) (by (with_reducible repeat (first | refine blk_drewN ?_ _ | refine blk_drew ?_ | refine blk_alloc ?_ _)); exact BK147.out) hb); have n4_ := Aside0.mk (blk_below (g := gb154) (o := .cells #[.int .u32 t149, .slice Ao32 t150.length co32] 27 (0, 0)) (by (with_reducible repeat (first | refine blk_drewN ?_ _ | refine blk_drew ?_ | refine blk_alloc ?_ _)); exact BK154.out) hb); have n5_ := Aside0.mk (blk_below (g := gb160) (o := .cells #[.int .u32 t155, .slice Ao39 t156.length co39] 27 (0, 0)) (by (with_reducible repeat (first | refine blk_drewN ?_ _ | refine blk_drew ?_ | refine blk_alloc ?_ _)); exact BK160.out) hb); have n6_ := Aside0.mk (below_step (by repeat (first | (with_reducible first | exact HB.out | apply below_alloc | apply pw_below_drewN | apply below_drew1 | refine below_set ?_ GE147.out | refine below_set ?_ GE154.out | refine below_set ?_ GE160.out) | exact HB.out)) hb); clear HO_148001; clear HO_155001; clear HO_161001; clear BK147; clear BK154; clear BK160; clear HB; have HO_148001 := n0_; have HO_155001 := n1_; have HO_161001 := n2_; have BK147 := n3_; have BK154 := n4_; have BK160 := n5_; have HB := n6_; clear n0_ n1_ n2_ n3_ n4_ n5_ n6_; (try clear hb); (try clear hb2); (try clear hk); (try clear hi); have hnb76 := NB154_147.out; have hnc76 := NB147_154.out; have hcz77_0 : w75.cell? ⟨gb154, 0, none⟩ = some (.int .u32 t149) := (blk_cell BK154.out 0).trans rfl; have hcz77_1 : w75.cell? ⟨gb154, 1, none⟩ = some (.slice Ao32 t150.length co32) := (blk_cell BK154.out 1).trans rfl; have hfz77_0 := blk_frozen BK154.out 0; have hfz77_1 := blk_frozen BK154.out 1) | (go_at_call 18; (with_reducible refine (calls_Calls_Many.calls t149 _ _ t150 t164 _ ?side1 ?side2 A63.out).mono ?_); (case side1 => repeat (first | exact (Kd.R_reads' HO_155001.out).2.2 | (with_reducible refine Kd.C_alloc ?_ _) | (with_reducible refine Kd.C_drewN ?_ _) | (with_reducible refine Kd.C_drew ?_))); (case side2 => exact (Kd.R_reads' HO_155001.out).2.1); rintro e w78 ⟨rfl, hb⟩; have n0_ := Aside0.mk (Kd.R_below (by (with_reducible repeat (first | apply Kd.R_alloc | apply Kd.R_drewN | apply Kd.R_drew)); exact HO_148001.out) hb); have n1_ := Aside0.mk (Kd.R_below (by (with_reducible repeat (first | apply Kd.R_alloc | apply Kd.R_drewN | apply Kd.R_drew)); exact HO_155001.out) hb); have n2_ := Aside0.mk (Kd.R_below (by (with_reducible repeat (first | apply Kd.R_alloc | apply Kd.R_drewN | apply Kd.R_drew)); exact HO_161001.out) hb); have n3_ := Aside0.mk (blk_below (g := gb147) (o := .cells #[.int .u32 t143, .slice Ao13 t144.length co13] 27 (0, 0)) (by (with_reducible repeat (first | refine blk_drewN ?_ _ | refine blk_drew ?_ | refine blk_alloc ?_ _)); exact BK147.out) hb); have n4_ := Aside0.mk (blk_below (g := gb154) (o := .cells #[.int .u32 t149, .slice Ao32 t150.length co32] 27 (0, 0)) (by (with_reducible repeat (first | refine blk_drewN ?_ _ | refine blk_drew ?_ | refine blk_alloc ?_ _)); exact BK154.out) hb); have n5_ := Aside0.mk (blk_below (g := gb160) (o := .cells #[.int .u32 t155, .slice Ao39 t156.length co39] 27 (0, 0)) (by (with_reducible repeat (first | refine blk_drewN ?_ _ | refine blk_drew ?_ | refine blk_alloc ?_ _)); exact BK160.out) hb); have n6_ := Aside0.mk (below_step (by repeat (first | (with_reducible first | exact HB.out | apply below_alloc | apply pw_below_drewN | apply below_drew1 | refine below_set ?_ GE147.out | refine below_set ?_ GE154.out | refine below_set ?_ GE160.out) | exact HB.out)) hb); clear HO_148001; clear HO_155001; clear HO_161001; clear BK147; clear BK154; clear BK160; clear HB; have HO_148001 := n0_; have HO_155001 := n1_; have HO_161001 := n2_; have BK147 := n3_; have BK154 := n4_; have BK160 := n5_; have HB := n6_; clear n0_ n1_ n2_ n3_ n4_ n5_ n6_; (try clear hb); (try clear hb2); (try clear hk); (try clear hi)))
                                  go_meet
                                  case rel => exact ⟨_, (true), (by first | rfl | (simp; done) | (simp [*]; done)), H', ⟨by have := HK1.out; have := HJ20.out; have := HJ25.out; first | omega | exact Nat.le_refl _⟩, ⟨by (with_reducible repeat (first | apply Kd.R_alloc | apply Kd.R_drewN | apply Kd.R_drew)); exact HO_148001.out⟩, ⟨by (with_reducible repeat (first | apply Kd.R_alloc | apply Kd.R_drewN | apply Kd.R_drew)); exact HO_155001.out⟩, ⟨by (with_reducible repeat (first | apply Kd.R_alloc | apply Kd.R_drewN | apply Kd.R_drew)); exact HO_161001.out⟩, ⟨by (with_reducible repeat (first | refine blk_drewN ?_ _ | refine blk_drew ?_ | refine blk_alloc ?_ _)); exact BK147.out⟩, ⟨by (with_reducible repeat (first | refine blk_drewN ?_ _ | refine blk_drew ?_ | refine blk_alloc ?_ _)); exact BK154.out⟩, ⟨by (with_reducible repeat (first | refine blk_drewN ?_ _ | refine blk_drew ?_ | refine blk_alloc ?_ _)); exact BK160.out⟩, ⟨by repeat (first | (with_reducible first | exact HB.out | apply below_alloc | apply pw_below_drewN | apply below_drew1 | refine below_set ?_ GE147.out | refine below_set ?_ GE154.out | refine below_set ?_ GE160.out) | exact HB.out)⟩⟩
                              · rw [if_neg c62] at H
                                have c62b0 : (t163 == 0) = false := beq_eq_false_iff_ne.mpr c62
                                have c62b1 : (t163 != 0) = true := bne_iff_ne.mpr c62
                                have H' := Aside0.mk H
                                clear H
                                have hnb79 := NB160_147.out
                                have hnc79 := NB147_160.out
                                have hnb80 := NB160_154.out
                                have hnc80 := NB154_160.out
                                have hcz81_0 : wc.cell? ⟨gb160, 0, none⟩ = some (.int .u32 t155) := (blk_cell BK160.out 0).trans rfl
                                have hcz81_1 : wc.cell? ⟨gb160, 1, none⟩ = some (.slice Ao39 t156.length co39) := (blk_cell BK160.out 1).trans rfl
                                have hfz81_0 := blk_frozen BK160.out 0
                                have hfz81_1 := blk_frozen BK160.out 1
                                go_wp2_with (first | (go_at_call 18; (with_reducible refine (calls_Calls_Many.calls t155 _ _ t156 t163 _ ?side1 ?side2 A61.out).mono ?_); (case side1 => repeat (first | exact (Kd.R_reads' HO_161001.out).2.2 | (with_reducible refine Kd.C_alloc ?_ _) | (with_reducible refine Kd.C_drewN ?_ _) | (with_reducible refine Kd.C_drew ?_))); (case side2 => exact (Kd.R_reads' HO_161001.out).2.1); rintro e w82 ⟨rfl, hb⟩; have n0_ := Aside0.mk (Kd.R_below (by (with_reducible repeat (first | apply Kd.R_alloc | apply Kd.R_drewN | apply Kd.R_drew)); exact HO_148001.out) hb); have n1_ := Aside0.mk (Kd.R_below (by (with_reducible repeat (first | apply Kd.R_alloc | apply Kd.R_drewN | apply Kd.R_drew)); exact HO_155001.out) hb); have n2_ := Aside0.mk (Kd.R_below (by (with_reducible repeat (first | apply Kd.R_alloc | apply Kd.R_drewN | apply Kd.R_drew)); exact HO_161001.out) hb); have n3_ := Aside0.mk (blk_below (g := gb147) (o := .cells #[.int .u32 t143, .slice Ao13 t144.length co13] 27 (0, 0)) (by (with_reducible repeat (first | refine blk_drewN ?_ _ | refine blk_drew ?_ | refine blk_alloc ?_ _)); exact BK147.out) hb); have n4_ := Aside0.mk (blk_below (g := gb154) (o := .cells #[.int .u32 t149, .slice Ao32 t150.length co32] 27 (0, 0)) (by (with_reducible repeat (first | refine blk_drewN ?_ _ | refine blk_drew ?_ | refine blk_alloc ?_ _)); exact BK154.out) hb); have n5_ := Aside0.mk (blk_below (g := gb160) (o := .cells #[.int .u32 t155, .slice Ao39 t156.length co39] 27 (0, 0)) (by (with_reducible repeat (first | refine blk_drewN ?_ _ | refine blk_drew ?_ | refine blk_alloc ?_ _)); exact BK160.out) hb); have n6_ := Aside0.mk (below_step (by repeat (first | (with_reducible first | exact HB.out | apply below_alloc | apply pw_below_drewN | apply below_drew1 | refine below_set ?_ GE147.out | refine below_set ?_ GE154.out | refine below_set ?_ GE160.out) | exact HB.out)) hb); clear HO_148001; clear HO_155001; clear HO_161001; clear BK147; clear BK154; clear BK160; clear HB; have HO_148001 := n0_; have HO_155001 := n1_; have HO_161001 := n2_; have BK147 := n3_; have BK154 := n4_; have BK160 := n5_; have HB := n6_; clear n0_ n1_ n2_ n3_ n4_ n5_ n6_; (try clear hb); (try clear hb2); (try clear hk); (try clear hi)))
                                go_meet
                                case rel => exact ⟨_, (true), (by first | rfl | (simp; done) | (simp [*]; done)), H', ⟨by have := HK1.out; have := HJ20.out; have := HJ25.out; first | omega | exact Nat.le_refl _⟩, ⟨by (with_reducible repeat (first | apply Kd.R_alloc | apply Kd.R_drewN | apply Kd.R_drew)); exact HO_148001.out⟩, ⟨by (with_reducible repeat (first | apply Kd.R_alloc | apply Kd.R_drewN | apply Kd.R_drew)); exact HO_155001.out⟩, ⟨by (with_reducible repeat (first | apply Kd.R_alloc | apply Kd.R_drewN | apply Kd.R_drew)); exact HO_161001.out⟩, ⟨by (with_reducible repeat (first | refine blk_drewN ?_ _ | refine blk_drew ?_ | refine blk_alloc ?_ _)); exact BK147.out⟩, ⟨by (with_reducible repeat (first | refine blk_drewN ?_ _ | refine blk_drew ?_ | refine blk_alloc ?_ _)); exact BK154.out⟩, ⟨by (with_reducible repeat (first | refine blk_drewN ?_ _ | refine blk_drew ?_ | refine blk_alloc ?_ _)); exact BK160.out⟩, ⟨by repeat (first | (with_reducible first | exact HB.out | apply below_alloc | apply pw_below_drewN | apply below_drew1 | refine below_set ?_ GE147.out | refine below_set ?_ GE154.out | refine below_set ?_ GE160.out) | exact HB.out)⟩⟩
                          · replace c45 := Bool.eq_false_iff.mpr c45
                            subst c45
                            have H1 : ((calls_Calls_Many.f t149 t150).bind fun t165 => (if t165 = 0 then (if t159 = true then ((calls_Calls_Many.f t155 t156).bind fun t166 => (paternosterlaw22_CallsNone.j3 kj25 a0 a1 a2 (t144.length : Int) (t166 != 1) t143 t144)) else ((calls_Calls_Many.f t155 t156).bind fun t167 => (if t167 = 0 then (paternosterlaw22_CallsNone.j3 kj25 a0 a1 a2 (t144.length : Int) false t143 t144) else (paternosterlaw22_CallsNone.j3 kj25 a0 a1 a2 (t144.length : Int) true t143 t144)))) else (paternosterlaw22_CallsNone.j3 kj25 a0 a1 a2 (t144.length : Int) true t143 t144))) = some r := by rw [if_neg (show ¬ (false = true) by decide)] at H; exact H
                            clear H
                            have H := H1
                            clear H1
                            replace H := Option.bind_eq_some_iff.mp H
                            obtain ⟨t165, A830, H⟩ := H
                            replace H : (if t165 = 0 then (if t159 = true then ((calls_Calls_Many.f t155 t156).bind fun t166 => (paternosterlaw22_CallsNone.j3 kj25 a0 a1 a2 (t144.length : Int) (t166 != 1) t143 t144)) else ((calls_Calls_Many.f t155 t156).bind fun t167 => (if t167 = 0 then (paternosterlaw22_CallsNone.j3 kj25 a0 a1 a2 (t144.length : Int) false t143 t144) else (paternosterlaw22_CallsNone.j3 kj25 a0 a1 a2 (t144.length : Int) true t143 t144)))) else (paternosterlaw22_CallsNone.j3 kj25 a0 a1 a2 (t144.length : Int) true t143 t144)) = some r := H
                            have A83 := Aside0.mk A830
                            clear A830
                            by_cases c84 : t165 = 0
                            · rw [if_pos c84] at H
                              have c84b0 : (t165 == 0) = true := beq_iff_eq.mpr c84
                              have c84b1 : (t165 != 0) = false := bne_eq_false_iff_eq.mpr c84
                              clear c84
                              by_cases c85 : t159 = true
                              · subst c85
                                have H1 : ((calls_Calls_Many.f t155 t156).bind fun t166 => (paternosterlaw22_CallsNone.j3 kj25 a0 a1 a2 (t144.length : Int) (t166 != 1) t143 t144)) = some r := by rw [if_pos rfl] at H; exact H
                                clear H
                                have H := H1
                                clear H1
                                replace H := Option.bind_eq_some_iff.mp H
                                obtain ⟨t166, A860, H⟩ := H
                                replace H : (paternosterlaw22_CallsNone.j3 kj25 a0 a1 a2 (t144.length : Int) (t166 != 1) t143 t144) = some r := H
                                have A86 := Aside0.mk A860
                                clear A860
                                have H' := Aside0.mk H
                                clear H
                                have hnb87 := NB154_147.out
                                have hnc87 := NB147_154.out
                                have hnb88 := NB154_160.out
                                have hnc88 := NB160_154.out
                                have hcz89_0 : wc.cell? ⟨gb154, 0, none⟩ = some (.int .u32 t149) := (blk_cell BK154.out 0).trans rfl
                                have hcz89_1 : wc.cell? ⟨gb154, 1, none⟩ = some (.slice Ao32 t150.length co32) := (blk_cell BK154.out 1).trans rfl
                                have hfz89_0 := blk_frozen BK154.out 0
                                have hfz89_1 := blk_frozen BK154.out 1
                                go_wp2_with (first | (go_at_call 18; (with_reducible refine (calls_Calls_Many.calls t149 _ _ t150 t165 _ ?side1 ?side2 A83.out).mono ?_); (case side1 => repeat (first | exact (Kd.R_reads' HO_155001.out).2.2 | (with_reducible refine Kd.C_alloc ?_ _) | (with_reducible refine Kd.C_drewN ?_ _) | (with_reducible refine Kd.C_drew ?_))); (case side2 => exact (Kd.R_reads' HO_155001.out).2.1); rintro e w90 ⟨rfl, hb⟩; have n0_ := Aside0.mk (Kd.R_below (by (with_reducible repeat (first | apply Kd.R_alloc | apply Kd.R_drewN | apply Kd.R_drew)); exact HO_148001.out) hb); have n1_ := Aside0.mk (Kd.R_below (by (with_reducible repeat (first | apply Kd.R_alloc | apply Kd.R_drewN | apply Kd.R_drew)); exact HO_155001.out) hb); have n2_ := Aside0.mk (Kd.R_below (by (with_reducible repeat (first | apply Kd.R_alloc | apply Kd.R_drewN | apply Kd.R_drew)); exact HO_161001.out) hb); have n3_ := Aside0.mk (blk_below (g := gb147) (o := .cells #[.int .u32 t143, .slice Ao13 t144.length co13] 27 (0, 0)) (by (with_reducible repeat (first | refine blk_drewN ?_ _ | refine blk_drew ?_ | refine blk_alloc ?_ _)); exact BK147.out) hb); have n4_ := Aside0.mk (blk_below (g := gb154) (o := .cells #[.int .u32 t149, .slice Ao32 t150.length co32] 27 (0, 0)) (by (with_reducible repeat (first | refine blk_drewN ?_ _ | refine blk_drew ?_ | refine blk_alloc ?_ _)); exact BK154.out) hb); have n5_ := Aside0.mk (blk_below (g := gb160) (o := .cells #[.int .u32 t155, .slice Ao39 t156.length co39] 27 (0, 0)) (by (with_reducible repeat (first | refine blk_drewN ?_ _ | refine blk_drew ?_ | refine blk_alloc ?_ _)); exact BK160.out) hb); have n6_ := Aside0.mk (below_step (by repeat (first | (with_reducible first | exact HB.out | apply below_alloc | apply pw_below_drewN | apply below_drew1 | refine below_set ?_ GE147.out | refine below_set ?_ GE154.out | refine below_set ?_ GE160.out) | exact HB.out)) hb); clear HO_148001; clear HO_155001; clear HO_161001; clear BK147; clear BK154; clear BK160; clear HB; have HO_148001 := n0_; have HO_155001 := n1_; have HO_161001 := n2_; have BK147 := n3_; have BK154 := n4_; have BK160 := n5_; have HB := n6_; clear n0_ n1_ n2_ n3_ n4_ n5_ n6_; (try clear hb); (try clear hb2); (try clear hk); (try clear hi); have hnb91 := NB160_147.out; have hnc91 := NB147_160.out; have hcz92_0 : w90.cell? ⟨gb160, 0, none⟩ = some (.int .u32 t155) := (blk_cell BK160.out 0).trans rfl; have hcz92_1 : w90.cell? ⟨gb160, 1, none⟩ = some (.slice Ao39 t156.length co39) := (blk_cell BK160.out 1).trans rfl; have hfz92_0 := blk_frozen BK160.out 0; have hfz92_1 := blk_frozen BK160.out 1) | (go_at_call 18; (with_reducible refine (calls_Calls_Many.calls t155 _ _ t156 t166 _ ?side1 ?side2 A86.out).mono ?_); (case side1 => repeat (first | exact (Kd.R_reads' HO_161001.out).2.2 | (with_reducible refine Kd.C_alloc ?_ _) | (with_reducible refine Kd.C_drewN ?_ _) | (with_reducible refine Kd.C_drew ?_))); (case side2 => exact (Kd.R_reads' HO_161001.out).2.1); rintro e w93 ⟨rfl, hb⟩; have n0_ := Aside0.mk (Kd.R_below (by (with_reducible repeat (first | apply Kd.R_alloc | apply Kd.R_drewN | apply Kd.R_drew)); exact HO_148001.out) hb); have n1_ := Aside0.mk (Kd.R_below (by (with_reducible repeat (first | apply Kd.R_alloc | apply Kd.R_drewN | apply Kd.R_drew)); exact HO_155001.out) hb); have n2_ := Aside0.mk (Kd.R_below (by (with_reducible repeat (first | apply Kd.R_alloc | apply Kd.R_drewN | apply Kd.R_drew)); exact HO_161001.out) hb); have n3_ := Aside0.mk (blk_below (g := gb147) (o := .cells #[.int .u32 t143, .slice Ao13 t144.length co13] 27 (0, 0)) (by (with_reducible repeat (first | refine blk_drewN ?_ _ | refine blk_drew ?_ | refine blk_alloc ?_ _)); exact BK147.out) hb); have n4_ := Aside0.mk (blk_below (g := gb154) (o := .cells #[.int .u32 t149, .slice Ao32 t150.length co32] 27 (0, 0)) (by (with_reducible repeat (first | refine blk_drewN ?_ _ | refine blk_drew ?_ | refine blk_alloc ?_ _)); exact BK154.out) hb); have n5_ := Aside0.mk (blk_below (g := gb160) (o := .cells #[.int .u32 t155, .slice Ao39 t156.length co39] 27 (0, 0)) (by (with_reducible repeat (first | refine blk_drewN ?_ _ | refine blk_drew ?_ | refine blk_alloc ?_ _)); exact BK160.out) hb); have n6_ := Aside0.mk (below_step (by repeat (first | (with_reducible first | exact HB.out | apply below_alloc | apply pw_below_drewN | apply below_drew1 | refine below_set ?_ GE147.out | refine below_set ?_ GE154.out | refine below_set ?_ GE160.out) | exact HB.out)) hb); clear HO_148001; clear HO_155001; clear HO_161001; clear BK147; clear BK154; clear BK160; clear HB; have HO_148001 := n0_; have HO_155001 := n1_; have HO_161001 := n2_; have BK147 := n3_; have BK154 := n4_; have BK160 := n5_; have HB := n6_; clear n0_ n1_ n2_ n3_ n4_ n5_ n6_; (try clear hb); (try clear hb2); (try clear hk); (try clear hi)))
                                go_meet
                                case rel => exact ⟨_, ((t166 != 1)), (by first | rfl | (simp; done) | (simp [*]; done)), H', ⟨by have := HK1.out; have := HJ20.out; have := HJ25.out; first | omega | exact Nat.le_refl _⟩, ⟨by (with_reducible repeat (first | apply Kd.R_alloc | apply Kd.R_drewN | apply Kd.R_drew)); exact HO_148001.out⟩, ⟨by (with_reducible repeat (first | apply Kd.R_alloc | apply Kd.R_drewN | apply Kd.R_drew)); exact HO_155001.out⟩, ⟨by (with_reducible repeat (first | apply Kd.R_alloc | apply Kd.R_drewN | apply Kd.R_drew)); exact HO_161001.out⟩, ⟨by (with_reducible repeat (first | refine blk_drewN ?_ _ | refine blk_drew ?_ | refine blk_alloc ?_ _)); exact BK147.out⟩, ⟨by (with_reducible repeat (first | refine blk_drewN ?_ _ | refine blk_drew ?_ | refine blk_alloc ?_ _)); exact BK154.out⟩, ⟨by (with_reducible repeat (first | refine blk_drewN ?_ _ | refine blk_drew ?_ | refine blk_alloc ?_ _)); exact BK160.out⟩, ⟨by repeat (first | (with_reducible first | exact HB.out | apply below_alloc | apply pw_below_drewN | apply below_drew1 | refine below_set ?_ GE147.out | refine below_set ?_ GE154.out | refine below_set ?_ GE160.out) | exact HB.out)⟩⟩
                              · replace c85 := Bool.eq_false_iff.mpr c85
                                subst c85
                                have H1 : ((calls_Calls_Many.f t155 t156).bind fun t167 => (if t167 = 0 then (paternosterlaw22_CallsNone.j3 kj25 a0 a1 a2 (t144.length : Int) false t143 t144) else (paternosterlaw22_CallsNone.j3 kj25 a0 a1 a2 (t144.length : Int) true t143 t144))) = some r := by rw [if_neg (show ¬ (false = true) by decide)] at H; exact H
                                clear H
                                have H := H1
                                clear H1
                                replace H := Option.bind_eq_some_iff.mp H
                                obtain ⟨t167, A940, H⟩ := H
                                replace H : (if t167 = 0 then (paternosterlaw22_CallsNone.j3 kj25 a0 a1 a2 (t144.length : Int) false t143 t144) else (paternosterlaw22_CallsNone.j3 kj25 a0 a1 a2 (t144.length : Int) true t143 t144)) = some r := H
                                have A94 := Aside0.mk A940
                                clear A940
                                by_cases c95 : t167 = 0
                                · rw [if_pos c95] at H
                                  have c95b0 : (t167 == 0) = true := beq_iff_eq.mpr c95
                                  have c95b1 : (t167 != 0) = false := bne_eq_false_iff_eq.mpr c95
                                  clear c95
                                  have H' := Aside0.mk H
                                  clear H
                                  have hnb96 := NB154_147.out
                                  have hnc96 := NB147_154.out
                                  have hnb97 := NB154_160.out
                                  have hnc97 := NB160_154.out
                                  have hcz98_0 : wc.cell? ⟨gb154, 0, none⟩ = some (.int .u32 t149) := (blk_cell BK154.out 0).trans rfl
                                  have hcz98_1 : wc.cell? ⟨gb154, 1, none⟩ = some (.slice Ao32 t150.length co32) := (blk_cell BK154.out 1).trans rfl
                                  have hfz98_0 := blk_frozen BK154.out 0
                                  have hfz98_1 := blk_frozen BK154.out 1
                                  go_wp2_with (first | (go_at_call 18; (with_reducible refine (calls_Calls_Many.calls t149 _ _ t150 t165 _ ?side1 ?side2 A83.out).mono ?_); (case side1 => repeat (first | exact (Kd.R_reads' HO_155001.out).2.2 | (with_reducible refine Kd.C_alloc ?_ _) | (with_reducible refine Kd.C_drewN ?_ _) | (with_reducible refine Kd.C_drew ?_))); (case side2 => exact (Kd.R_reads' HO_155001.out).2.1); rintro e w99 ⟨rfl, hb⟩; have n0_ := Aside0.mk (Kd.R_below (by (with_reducible repeat (first | apply Kd.R_alloc | apply Kd.R_drewN | apply Kd.R_drew)); exact HO_148001.out) hb); have n1_ := Aside0.mk (Kd.R_below (by (with_reducible repeat (first | apply Kd.R_alloc | apply Kd.R_drewN | apply Kd.R_drew)); exact HO_155001.out) hb); have n2_ := Aside0.mk (Kd.R_below (by (with_reducible repeat (first | apply Kd.R_alloc | apply Kd.R_drewN | apply Kd.R_drew)); exact HO_161001.out) hb); have n3_ := Aside0.mk (blk_below (g := gb147) (o := .cells #[.int .u32 t143, .slice Ao13 t144.length co13] 27 (0, 0)) (by (with_reducible repeat (first | refine blk_drewN ?_ _ | refine blk_drew ?_ | refine blk_alloc ?_ _)); exact BK147.out) hb); have n4_ := Aside0.mk (blk_below (g := gb154) (o := .cells #[.int .u32 t149, .slice Ao32 t150.length co32] 27 (0, 0)) (by (with_reducible repeat (first | refine blk_drewN ?_ _ | refine blk_drew ?_ | refine blk_alloc ?_ _)); exact BK154.out) hb); have n5_ := Aside0.mk (blk_below (g := gb160) (o := .cells #[.int .u32 t155, .slice Ao39 t156.length co39] 27 (0, 0)) (by (with_reducible repeat (first | refine blk_drewN ?_ _ | refine blk_drew ?_ | refine blk_alloc ?_ _)); exact BK160.out) hb); have n6_ := Aside0.mk (below_step (by repeat (first | (with_reducible first | exact HB.out | apply below_alloc | apply pw_below_drewN | apply below_drew1 | refine below_set ?_ GE147.out | refine below_set ?_ GE154.out | refine below_set ?_ GE160.out) | exact HB.out)) hb); clear HO_148001; clear HO_155001; clear HO_161001; clear BK147; clear BK154; clear BK160; clear HB; have HO_148001 := n0_; have HO_155001 := n1_; have HO_161001 := n2_; have BK147 := n3_; have BK154 := n4_; have BK160 := n5_; have HB := n6_; clear n0_ n1_ n2_ n3_ n4_ n5_ n6_; (try clear hb); (try clear hb2); (try clear hk); (try clear hi); have hnb100 := NB160_147.out; have hnc100 := NB147_160.out; have hcz101_0 : w99.cell? ⟨gb160, 0, none⟩ = some (.int .u32 t155) := (blk_cell BK160.out 0).trans rfl; have hcz101_1 : w99.cell? ⟨gb160, 1, none⟩ = some (.slice Ao39 t156.length co39) := (blk_cell BK160.out 1).trans rfl; have hfz101_0 := blk_frozen BK160.out 0; have hfz101_1 := blk_frozen BK160.out 1) | (go_at_call 18; (with_reducible refine (calls_Calls_Many.calls t155 _ _ t156 t167 _ ?side1 ?side2 A94.out).mono ?_); (case side1 => repeat (first | exact (Kd.R_reads' HO_161001.out).2.2 | (with_reducible refine Kd.C_alloc ?_ _) | (with_reducible refine Kd.C_drewN ?_ _) | (with_reducible refine Kd.C_drew ?_))); (case side2 => exact (Kd.R_reads' HO_161001.out).2.1); rintro e w102 ⟨rfl, hb⟩; have n0_ := Aside0.mk (Kd.R_below (by (with_reducible repeat (first | apply Kd.R_alloc | apply Kd.R_drewN | apply Kd.R_drew)); exact HO_148001.out) hb); have n1_ := Aside0.mk (Kd.R_below (by (with_reducible repeat (first | apply Kd.R_alloc | apply Kd.R_drewN | apply Kd.R_drew)); exact HO_155001.out) hb); have n2_ := Aside0.mk (Kd.R_below (by (with_reducible repeat (first | apply Kd.R_alloc | apply Kd.R_drewN | apply Kd.R_drew)); exact HO_161001.out) hb); have n3_ := Aside0.mk (blk_below (g := gb147) (o := .cells #[.int .u32 t143, .slice Ao13 t144.length co13] 27 (0, 0)) (by (with_reducible repeat (first | refine blk_drewN ?_ _ | refine blk_drew ?_ | refine blk_alloc ?_ _)); exact BK147.out) hb); have n4_ := Aside0.mk (blk_below (g := gb154) (o := .cells #[.int .u32 t149, .slice Ao32 t150.length co32] 27 (0, 0)) (by (with_reducible repeat (first | refine blk_drewN ?_ _ | refine blk_drew ?_ | refine blk_alloc ?_ _)); exact BK154.out) hb); have n5_ := Aside0.mk (blk_below (g := gb160) (o := .cells #[.int .u32 t155, .slice Ao39 t156.length co39] 27 (0, 0)) (by (with_reducible repeat (first | refine blk_drewN ?_ _ | refine blk_drew ?_ | refine blk_alloc ?_ _)); exact BK160.out) hb); have n6_ := Aside0.mk (below_step (by repeat (first | (with_reducible first | exact HB.out | apply below_alloc | apply pw_below_drewN | apply below_drew1 | refine below_set ?_ GE147.out | refine below_set ?_ GE154.out | refine below_set ?_ GE160.out) | exact HB.out)) hb); clear HO_148001; clear HO_155001; clear HO_161001; clear BK147; clear BK154; clear BK160; clear HB; have HO_148001 := n0_; have HO_155001 := n1_; have HO_161001 := n2_; have BK147 := n3_; have BK154 := n4_; have BK160 := n5_; have HB := n6_; clear n0_ n1_ n2_ n3_ n4_ n5_ n6_; (try clear hb); (try clear hb2); (try clear hk); (try clear hi)))
                                  go_meet
                                  case rel => exact ⟨_, (false), (by first | rfl | (simp; done) | (simp [*]; done)), H', ⟨by have := HK1.out; have := HJ20.out; have := HJ25.out; first | omega | exact Nat.le_refl _⟩, ⟨by (with_reducible repeat (first | apply Kd.R_alloc | apply Kd.R_drewN | apply Kd.R_drew)); exact HO_148001.out⟩, ⟨by (with_reducible repeat (first | apply Kd.R_alloc | apply Kd.R_drewN | apply Kd.R_drew)); exact HO_155001.out⟩, ⟨by (with_reducible repeat (first | apply Kd.R_alloc | apply Kd.R_drewN | apply Kd.R_drew)); exact HO_161001.out⟩, ⟨by (with_reducible repeat (first | refine blk_drewN ?_ _ | refine blk_drew ?_ | refine blk_alloc ?_ _)); exact BK147.out⟩, ⟨by (with_reducible repeat (first | refine blk_drewN ?_ _ | refine blk_drew ?_ | refine blk_alloc ?_ _)); exact BK154.out⟩, ⟨by (with_reducible repeat (first | refine blk_drewN ?_ _ | refine blk_drew ?_ | refine blk_alloc ?_ _)); exact BK160.out⟩, ⟨by repeat (first | (with_reducible first | exact HB.out | apply below_alloc | apply pw_below_drewN | apply below_drew1 | refine below_set ?_ GE147.out | refine below_set ?_ GE154.out | refine below_set ?_ GE160.out) | exact HB.out)⟩⟩
                                · rw [if_neg c95] at H
                                  have c95b0 : (t167 == 0) = false := beq_eq_false_iff_ne.mpr c95
                                  have c95b1 : (t167 != 0) = true := bne_iff_ne.mpr c95
                                  have H' := Aside0.mk H
                                  clear H
                                  have hnb103 := NB154_147.out
                                  have hnc103 := NB147_154.out
                                  have hnb104 := NB154_160.out
                                  have hnc104 := NB160_154.out
                                  have hcz105_0 : wc.cell? ⟨gb154, 0, none⟩ = some (.int .u32 t149) := (blk_cell BK154.out 0).trans rfl
                                  have hcz105_1 : wc.cell? ⟨gb154, 1, none⟩ = some (.slice Ao32 t150.length co32) := (blk_cell BK154.out 1).trans rfl
                                  have hfz105_0 := blk_frozen BK154.out 0
                                  have hfz105_1 := blk_frozen BK154.out 1
                                  go_wp2_with (first | (go_at_call 18; (with_reducible refine (calls_Calls_Many.calls t149 _ _ t150 t165 _ ?side1 ?side2 A83.out).mono ?_); (case side1 => repeat (first | exact (Kd.R_reads' HO_155001.out).2.2 | (with_reducible refine Kd.C_alloc ?_ _) | (with_reducible refine Kd.C_drewN ?_ _) | (with_reducible refine Kd.C_drew ?_))); (case side2 => exact (Kd.R_reads' HO_155001.out).2.1); rintro e w106 ⟨rfl, hb⟩; have n0_ := Aside0.mk (Kd.R_below (by (with_reducible repeat (first | apply Kd.R_alloc | apply Kd.R_drewN | apply Kd.R_drew)); exact HO_148001.out) hb); have n1_ := Aside0.mk (Kd.R_below (by (with_reducible repeat (first | apply Kd.R_alloc | apply Kd.R_drewN | apply Kd.R_drew)); exact HO_155001.out) hb); have n2_ := Aside0.mk (Kd.R_below (by (with_reducible repeat (first | apply Kd.R_alloc | apply Kd.R_drewN | apply Kd.R_drew)); exact HO_161001.out) hb); have n3_ := Aside0.mk (blk_below (g := gb147) (o := .cells #[.int .u32 t143, .slice Ao13 t144.length co13] 27 (0, 0)) (by (with_reducible repeat (first | refine blk_drewN ?_ _ | refine blk_drew ?_ | refine blk_alloc ?_ _)); exact BK147.out) hb); have n4_ := Aside0.mk (blk_below (g := gb154) (o := .cells #[.int .u32 t149, .slice Ao32 t150.length co32] 27 (0, 0)) (by (with_reducible repeat (first | refine blk_drewN ?_ _ | refine blk_drew ?_ | refine blk_alloc ?_ _)); exact BK154.out) hb); have n5_ := Aside0.mk (blk_below (g := gb160) (o := .cells #[.int .u32 t155, .slice Ao39 t156.length co39] 27 (0, 0)) (by (with_reducible repeat (first | refine blk_drewN ?_ _ | refine blk_drew ?_ | refine blk_alloc ?_ _)); exact BK160.out) hb); have n6_ := Aside0.mk (below_step (by repeat (first | (with_reducible first | exact HB.out | apply below_alloc | apply pw_below_drewN | apply below_drew1 | refine below_set ?_ GE147.out | refine below_set ?_ GE154.out | refine below_set ?_ GE160.out) | exact HB.out)) hb); clear HO_148001; clear HO_155001; clear HO_161001; clear BK147; clear BK154; clear BK160; clear HB; have HO_148001 := n0_; have HO_155001 := n1_; have HO_161001 := n2_; have BK147 := n3_; have BK154 := n4_; have BK160 := n5_; have HB := n6_; clear n0_ n1_ n2_ n3_ n4_ n5_ n6_; (try clear hb); (try clear hb2); (try clear hk); (try clear hi); have hnb107 := NB160_147.out; have hnc107 := NB147_160.out; have hcz108_0 : w106.cell? ⟨gb160, 0, none⟩ = some (.int .u32 t155) := (blk_cell BK160.out 0).trans rfl; have hcz108_1 : w106.cell? ⟨gb160, 1, none⟩ = some (.slice Ao39 t156.length co39) := (blk_cell BK160.out 1).trans rfl; have hfz108_0 := blk_frozen BK160.out 0; have hfz108_1 := blk_frozen BK160.out 1) | (go_at_call 18; (with_reducible refine (calls_Calls_Many.calls t155 _ _ t156 t167 _ ?side1 ?side2 A94.out).mono ?_); (case side1 => repeat (first | exact (Kd.R_reads' HO_161001.out).2.2 | (with_reducible refine Kd.C_alloc ?_ _) | (with_reducible refine Kd.C_drewN ?_ _) | (with_reducible refine Kd.C_drew ?_))); (case side2 => exact (Kd.R_reads' HO_161001.out).2.1); rintro e w109 ⟨rfl, hb⟩; have n0_ := Aside0.mk (Kd.R_below (by (with_reducible repeat (first | apply Kd.R_alloc | apply Kd.R_drewN | apply Kd.R_drew)); exact HO_148001.out) hb); have n1_ := Aside0.mk (Kd.R_below (by (with_reducible repeat (first | apply Kd.R_alloc | apply Kd.R_drewN | apply Kd.R_drew)); exact HO_155001.out) hb); have n2_ := Aside0.mk (Kd.R_below (by (with_reducible repeat (first | apply Kd.R_alloc | apply Kd.R_drewN | apply Kd.R_drew)); exact HO_161001.out) hb); have n3_ := Aside0.mk (blk_below (g := gb147) (o := .cells #[.int .u32 t143, .slice Ao13 t144.length co13] 27 (0, 0)) (by (with_reducible repeat (first | refine blk_drewN ?_ _ | refine blk_drew ?_ | refine blk_alloc ?_ _)); exact BK147.out) hb); have n4_ := Aside0.mk (blk_below (g := gb154) (o := .cells #[.int .u32 t149, .slice Ao32 t150.length co32] 27 (0, 0)) (by (with_reducible repeat (first | refine blk_drewN ?_ _ | refine blk_drew ?_ | refine blk_alloc ?_ _)); exact BK154.out) hb); have n5_ := Aside0.mk (blk_below (g := gb160) (o := .cells #[.int .u32 t155, .slice Ao39 t156.length co39] 27 (0, 0)) (by (with_reducible repeat (first | refine blk_drewN ?_ _ | refine blk_drew ?_ | refine blk_alloc ?_ _)); exact BK160.out) hb); have n6_ := Aside0.mk (below_step (by repeat (first | (with_reducible first | exact HB.out | apply below_alloc | apply pw_below_drewN | apply below_drew1 | refine below_set ?_ GE147.out | refine below_set ?_ GE154.out | refine below_set ?_ GE160.out) | exact HB.out)) hb); clear HO_148001; clear HO_155001; clear HO_161001; clear BK147; clear BK154; clear BK160; clear HB; have HO_148001 := n0_; have HO_155001 := n1_; have HO_161001 := n2_; have BK147 := n3_; have BK154 := n4_; have BK160 := n5_; have HB := n6_; clear n0_ n1_ n2_ n3_ n4_ n5_ n6_; (try clear hb); (try clear hb2); (try clear hk); (try clear hi)))
                                  go_meet
                                  case rel => exact ⟨_, (true), (by first | rfl | (simp; done) | (simp [*]; done)), H', ⟨by have := HK1.out; have := HJ20.out; have := HJ25.out; first | omega | exact Nat.le_refl _⟩, ⟨by (with_reducible repeat (first | apply Kd.R_alloc | apply Kd.R_drewN | apply Kd.R_drew)); exact HO_148001.out⟩, ⟨by (with_reducible repeat (first | apply Kd.R_alloc | apply Kd.R_drewN | apply Kd.R_drew)); exact HO_155001.out⟩, ⟨by (with_reducible repeat (first | apply Kd.R_alloc | apply Kd.R_drewN | apply Kd.R_drew)); exact HO_161001.out⟩, ⟨by (with_reducible repeat (first | refine blk_drewN ?_ _ | refine blk_drew ?_ | refine blk_alloc ?_ _)); exact BK147.out⟩, ⟨by (with_reducible repeat (first | refine blk_drewN ?_ _ | refine blk_drew ?_ | refine blk_alloc ?_ _)); exact BK154.out⟩, ⟨by (with_reducible repeat (first | refine blk_drewN ?_ _ | refine blk_drew ?_ | refine blk_alloc ?_ _)); exact BK160.out⟩, ⟨by repeat (first | (with_reducible first | exact HB.out | apply below_alloc | apply pw_below_drewN | apply below_drew1 | refine below_set ?_ GE147.out | refine below_set ?_ GE154.out | refine below_set ?_ GE160.out) | exact HB.out)⟩⟩
                            · rw [if_neg c84] at H
                              have c84b0 : (t165 == 0) = false := beq_eq_false_iff_ne.mpr c84
                              have c84b1 : (t165 != 0) = true := bne_iff_ne.mpr c84
                              have H' := Aside0.mk H
                              clear H
                              have hnb110 := NB154_147.out
                              have hnc110 := NB147_154.out
                              have hnb111 := NB154_160.out
                              have hnc111 := NB160_154.out
                              have hcz112_0 : wc.cell? ⟨gb154, 0, none⟩ = some (.int .u32 t149) := (blk_cell BK154.out 0).trans rfl
                              have hcz112_1 : wc.cell? ⟨gb154, 1, none⟩ = some (.slice Ao32 t150.length co32) := (blk_cell BK154.out 1).trans rfl
                              have hfz112_0 := blk_frozen BK154.out 0
                              have hfz112_1 := blk_frozen BK154.out 1
                              go_wp2_with (first | (go_at_call 18; (with_reducible refine (calls_Calls_Many.calls t149 _ _ t150 t165 _ ?side1 ?side2 A83.out).mono ?_); (case side1 => repeat (first | exact (Kd.R_reads' HO_155001.out).2.2 | (with_reducible refine Kd.C_alloc ?_ _) | (with_reducible refine Kd.C_drewN ?_ _) | (with_reducible refine Kd.C_drew ?_))); (case side2 => exact (Kd.R_reads' HO_155001.out).2.1); rintro e w113 ⟨rfl, hb⟩; have n0_ := Aside0.mk (Kd.R_below (by (with_reducible repeat (first | apply Kd.R_alloc | apply Kd.R_drewN | apply Kd.R_drew)); exact HO_148001.out) hb); have n1_ := Aside0.mk (Kd.R_below (by (with_reducible repeat (first | apply Kd.R_alloc | apply Kd.R_drewN | apply Kd.R_drew)); exact HO_155001.out) hb); have n2_ := Aside0.mk (Kd.R_below (by (with_reducible repeat (first | apply Kd.R_alloc | apply Kd.R_drewN | apply Kd.R_drew)); exact HO_161001.out) hb); have n3_ := Aside0.mk (blk_below (g := gb147) (o := .cells #[.int .u32 t143, .slice Ao13 t144.length co13] 27 (0, 0)) (by (with_reducible repeat (first | refine blk_drewN ?_ _ | refine blk_drew ?_ | refine blk_alloc ?_ _)); exact BK147.out) hb); have n4_ := Aside0.mk (blk_below (g := gb154) (o := .cells #[.int .u32 t149, .slice Ao32 t150.length co32] 27 (0, 0)) (by (with_reducible repeat (first | refine blk_drewN ?_ _ | refine blk_drew ?_ | refine blk_alloc ?_ _)); exact BK154.out) hb); have n5_ := Aside0.mk (blk_below (g := gb160) (o := .cells #[.int .u32 t155, .slice Ao39 t156.length co39] 27 (0, 0)) (by (with_reducible repeat (first | refine blk_drewN ?_ _ | refine blk_drew ?_ | refine blk_alloc ?_ _)); exact BK160.out) hb); have n6_ := Aside0.mk (below_step (by repeat (first | (with_reducible first | exact HB.out | apply below_alloc | apply pw_below_drewN | apply below_drew1 | refine below_set ?_ GE147.out | refine below_set ?_ GE154.out | refine below_set ?_ GE160.out) | exact HB.out)) hb); clear HO_148001; clear HO_155001; clear HO_161001; clear BK147; clear BK154; clear BK160; clear HB; have HO_148001 := n0_; have HO_155001 := n1_; have HO_161001 := n2_; have BK147 := n3_; have BK154 := n4_; have BK160 := n5_; have HB := n6_; clear n0_ n1_ n2_ n3_ n4_ n5_ n6_; (try clear hb); (try clear hb2); (try clear hk); (try clear hi)))
                              go_meet
                              case rel => exact ⟨_, (true), (by first | rfl | (simp; done) | (simp [*]; done)), H', ⟨by have := HK1.out; have := HJ20.out; have := HJ25.out; first | omega | exact Nat.le_refl _⟩, ⟨by (with_reducible repeat (first | apply Kd.R_alloc | apply Kd.R_drewN | apply Kd.R_drew)); exact HO_148001.out⟩, ⟨by (with_reducible repeat (first | apply Kd.R_alloc | apply Kd.R_drewN | apply Kd.R_drew)); exact HO_155001.out⟩, ⟨by (with_reducible repeat (first | apply Kd.R_alloc | apply Kd.R_drewN | apply Kd.R_drew)); exact HO_161001.out⟩, ⟨by (with_reducible repeat (first | refine blk_drewN ?_ _ | refine blk_drew ?_ | refine blk_alloc ?_ _)); exact BK147.out⟩, ⟨by (with_reducible repeat (first | refine blk_drewN ?_ _ | refine blk_drew ?_ | refine blk_alloc ?_ _)); exact BK154.out⟩, ⟨by (with_reducible repeat (first | refine blk_drewN ?_ _ | refine blk_drew ?_ | refine blk_alloc ?_ _)); exact BK160.out⟩, ⟨by repeat (first | (with_reducible first | exact HB.out | apply below_alloc | apply pw_below_drewN | apply below_drew1 | refine below_set ?_ GE147.out | refine below_set ?_ GE154.out | refine below_set ?_ GE160.out) | exact HB.out)⟩⟩
                      · replace c43 := Bool.eq_false_iff.mpr c43
                        subst c43
                        have H1 : (if (t159 != false) = true then (paternosterlaw22_CallsNone.j3 kj25 a0 a1 a2 (t144.length : Int) true t143 t144) else (if t153 = true then (if t159 = true then ((calls_Calls_Many.f t149 t150).bind fun t168 => (if t168 = 1 then ((calls_Calls_Many.f t155 t156).bind fun t169 => (paternosterlaw22_CallsNone.j3 kj25 a0 a1 a2 (t144.length : Int) (t169 != 1) t143 t144)) else (paternosterlaw22_CallsNone.j3 kj25 a0 a1 a2 (t144.length : Int) true t143 t144))) else ((calls_Calls_Many.f t155 t156).bind fun t170 => (if t170 = 0 then ((calls_Calls_Many.f t149 t150).bind fun t171 => (if t171 = 1 then (paternosterlaw22_CallsNone.j3 kj25 a0 a1 a2 (t144.length : Int) false t143 t144) else (paternosterlaw22_CallsNone.j3 kj25 a0 a1 a2 (t144.length : Int) true t143 t144))) else (paternosterlaw22_CallsNone.j3 kj25 a0 a1 a2 (t144.length : Int) true t143 t144)))) else ((calls_Calls_Many.f t149 t150).bind fun t172 => (if t172 = 0 then (if t159 = true then ((calls_Calls_Many.f t155 t156).bind fun t173 => (paternosterlaw22_CallsNone.j3 kj25 a0 a1 a2 (t144.length : Int) (t173 != 1) t143 t144)) else ((calls_Calls_Many.f t155 t156).bind fun t174 => (if t174 = 0 then (paternosterlaw22_CallsNone.j3 kj25 a0 a1 a2 (t144.length : Int) false t143 t144) else (paternosterlaw22_CallsNone.j3 kj25 a0 a1 a2 (t144.length : Int) true t143 t144)))) else (paternosterlaw22_CallsNone.j3 kj25 a0 a1 a2 (t144.length : Int) true t143 t144))))) = some r := by rw [if_neg (show ¬ (false = true) by decide)] at H; exact H
                        clear H
                        have H := H1
                        clear H1
                        by_cases c114 : (t159 != false) = true
                        · rw [if_pos c114] at H
                          have c114b0 : (t159 != false) = true := c114
                          (try (have c114b1 : decide (t159 = false) = false := by simpa using c114))
                          (try (have c114b2 : (t159 == false) = false := by simpa using c114))
                          (try (have c114b3 : ¬ (t159 = false) := by simpa using c114))
                          clear c114
                          have H' := Aside0.mk H
                          clear H
                          go_wp2
                          go_meet
                          case rel => exact ⟨_, (true), (by first | rfl | (simp; done) | (simp [*]; done)), H', ⟨by have := HK1.out; have := HJ20.out; have := HJ25.out; first | omega | exact Nat.le_refl _⟩, ⟨by (with_reducible repeat (first | apply Kd.R_alloc | apply Kd.R_drewN | apply Kd.R_drew)); exact HO_148001.out⟩, ⟨by (with_reducible repeat (first | apply Kd.R_alloc | apply Kd.R_drewN | apply Kd.R_drew)); exact HO_155001.out⟩, ⟨by (with_reducible repeat (first | apply Kd.R_alloc | apply Kd.R_drewN | apply Kd.R_drew)); exact HO_161001.out⟩, ⟨by (with_reducible repeat (first | refine blk_drewN ?_ _ | refine blk_drew ?_ | refine blk_alloc ?_ _)); exact BK147.out⟩, ⟨by (with_reducible repeat (first | refine blk_drewN ?_ _ | refine blk_drew ?_ | refine blk_alloc ?_ _)); exact BK154.out⟩, ⟨by (with_reducible repeat (first | refine blk_drewN ?_ _ | refine blk_drew ?_ | refine blk_alloc ?_ _)); exact BK160.out⟩, ⟨by repeat (first | (with_reducible first | exact HB.out | apply below_alloc | apply pw_below_drewN | apply below_drew1 | refine below_set ?_ GE147.out | refine below_set ?_ GE154.out | refine below_set ?_ GE160.out) | exact HB.out)⟩⟩
                        · rw [if_neg c114] at H
                          have c114b0 : (t159 != false) = false := by simpa using c114
                          (try (have c114b1 : decide (t159 = false) = true := by simpa using c114))
                          (try (have c114b2 : (t159 == false) = true := by simpa using c114))
                          clear c114
                          by_cases c115 : t153 = true
                          · subst c115
                            have H1 : (if t159 = true then ((calls_Calls_Many.f t149 t150).bind fun t168 => (if t168 = 1 then ((calls_Calls_Many.f t155 t156).bind fun t169 => (paternosterlaw22_CallsNone.j3 kj25 a0 a1 a2 (t144.length : Int) (t169 != 1) t143 t144)) else (paternosterlaw22_CallsNone.j3 kj25 a0 a1 a2 (t144.length : Int) true t143 t144))) else ((calls_Calls_Many.f t155 t156).bind fun t170 => (if t170 = 0 then ((calls_Calls_Many.f t149 t150).bind fun t171 => (if t171 = 1 then (paternosterlaw22_CallsNone.j3 kj25 a0 a1 a2 (t144.length : Int) false t143 t144) else (paternosterlaw22_CallsNone.j3 kj25 a0 a1 a2 (t144.length : Int) true t143 t144))) else (paternosterlaw22_CallsNone.j3 kj25 a0 a1 a2 (t144.length : Int) true t143 t144)))) = some r := by rw [if_pos rfl] at H; exact H
                            clear H
                            have H := H1
                            clear H1
                            by_cases c116 : t159 = true
                            · subst c116
                              have H1 : ((calls_Calls_Many.f t149 t150).bind fun t168 => (if t168 = 1 then ((calls_Calls_Many.f t155 t156).bind fun t169 => (paternosterlaw22_CallsNone.j3 kj25 a0 a1 a2 (t144.length : Int) (t169 != 1) t143 t144)) else (paternosterlaw22_CallsNone.j3 kj25 a0 a1 a2 (t144.length : Int) true t143 t144))) = some r := by rw [if_pos rfl] at H; exact H
                              clear H
                              have H := H1
                              clear H1
                              replace H := Option.bind_eq_some_iff.mp H
                              obtain ⟨t168, A1170, H⟩ := H
                              replace H : (if t168 = 1 then ((calls_Calls_Many.f t155 t156).bind fun t169 => (paternosterlaw22_CallsNone.j3 kj25 a0 a1 a2 (t144.length : Int) (t169 != 1) t143 t144)) else (paternosterlaw22_CallsNone.j3 kj25 a0 a1 a2 (t144.length : Int) true t143 t144)) = some r := H
                              have A117 := Aside0.mk A1170
                              clear A1170
                              by_cases c118 : t168 = 1
                              · rw [if_pos c118] at H
                                have c118b0 : (t168 == 1) = true := beq_iff_eq.mpr c118
                                have c118b1 : (t168 != 1) = false := bne_eq_false_iff_eq.mpr c118
                                clear c118
                                replace H := Option.bind_eq_some_iff.mp H
                                obtain ⟨t169, A1190, H⟩ := H
                                replace H : (paternosterlaw22_CallsNone.j3 kj25 a0 a1 a2 (t144.length : Int) (t169 != 1) t143 t144) = some r := H
                                have A119 := Aside0.mk A1190
                                clear A1190
                                have H' := Aside0.mk H
                                clear H
                                have hnb120 := NB154_147.out
                                have hnc120 := NB147_154.out
                                have hnb121 := NB154_160.out
                                have hnc121 := NB160_154.out
                                have hcz122_0 : wc.cell? ⟨gb154, 0, none⟩ = some (.int .u32 t149) := (blk_cell BK154.out 0).trans rfl
                                have hcz122_1 : wc.cell? ⟨gb154, 1, none⟩ = some (.slice Ao32 t150.length co32) := (blk_cell BK154.out 1).trans rfl
                                have hfz122_0 := blk_frozen BK154.out 0
                                have hfz122_1 := blk_frozen BK154.out 1
                                go_wp2_with (first | (go_at_call 18; (with_reducible refine (calls_Calls_Many.calls t149 _ _ t150 t168 _ ?side1 ?side2 A117.out).mono ?_); (case side1 => repeat (first | exact (Kd.R_reads' HO_155001.out).2.2 | (with_reducible refine Kd.C_alloc ?_ _) | (with_reducible refine Kd.C_drewN ?_ _) | (with_reducible refine Kd.C_drew ?_))); (case side2 => exact (Kd.R_reads' HO_155001.out).2.1); rintro e w123 ⟨rfl, hb⟩; have n0_ := Aside0.mk (Kd.R_below (by (with_reducible repeat (first | apply Kd.R_alloc | apply Kd.R_drewN | apply Kd.R_drew)); exact HO_148001.out) hb); have n1_ := Aside0.mk (Kd.R_below (by (with_reducible repeat (first | apply Kd.R_alloc | apply Kd.R_drewN | apply Kd.R_drew)); exact HO_155001.out) hb); have n2_ := Aside0.mk (Kd.R_below (by (with_reducible repeat (first | apply Kd.R_alloc | apply Kd.R_drewN | apply Kd.R_drew)); exact HO_161001.out) hb); have n3_ := Aside0.mk (blk_below (g := gb147) (o := .cells #[.int .u32 t143, .slice Ao13 t144.length co13] 27 (0, 0)) (by (with_reducible repeat (first | refine blk_drewN ?_ _ | refine blk_drew ?_ | refine blk_alloc ?_ _)); exact BK147.out) hb); have n4_ := Aside0.mk (blk_below (g := gb154) (o := .cells #[.int .u32 t149, .slice Ao32 t150.length co32] 27 (0, 0)) (by (with_reducible repeat (first | refine blk_drewN ?_ _ | refine blk_drew ?_ | refine blk_alloc ?_ _)); exact BK154.out) hb); have n5_ := Aside0.mk (blk_below (g := gb160) (o := .cells #[.int .u32 t155, .slice Ao39 t156.length co39] 27 (0, 0)) (by (with_reducible repeat (first | refine blk_drewN ?_ _ | refine blk_drew ?_ | refine blk_alloc ?_ _)); exact BK160.out) hb); have n6_ := Aside0.mk (below_step (by repeat (first | (with_reducible first | exact HB.out | apply below_alloc | apply pw_below_drewN | apply below_drew1 | refine below_set ?_ GE147.out | refine below_set ?_ GE154.out | refine below_set ?_ GE160.out) | exact HB.out)) hb); clear HO_148001; clear HO_155001; clear HO_161001; clear BK147; clear BK154; clear BK160; clear HB; have HO_148001 := n0_; have HO_155001 := n1_; have HO_161001 := n2_; have BK147 := n3_; have BK154 := n4_; have BK160 := n5_; have HB := n6_; clear n0_ n1_ n2_ n3_ n4_ n5_ n6_; (try clear hb); (try clear hb2); (try clear hk); (try clear hi); have hnb124 := NB160_147.out; have hnc124 := NB147_160.out; have hcz125_0 : w123.cell? ⟨gb160, 0, none⟩ = some (.int .u32 t155) := (blk_cell BK160.out 0).trans rfl; have hcz125_1 : w123.cell? ⟨gb160, 1, none⟩ = some (.slice Ao39 t156.length co39) := (blk_cell BK160.out 1).trans rfl; have hfz125_0 := blk_frozen BK160.out 0; have hfz125_1 := blk_frozen BK160.out 1) | (go_at_call 18; (with_reducible refine (calls_Calls_Many.calls t155 _ _ t156 t169 _ ?side1 ?side2 A119.out).mono ?_); (case side1 => repeat (first | exact (Kd.R_reads' HO_161001.out).2.2 | (with_reducible refine Kd.C_alloc ?_ _) | (with_reducible refine Kd.C_drewN ?_ _) | (with_reducible refine Kd.C_drew ?_))); (case side2 => exact (Kd.R_reads' HO_161001.out).2.1); rintro e w126 ⟨rfl, hb⟩; have n0_ := Aside0.mk (Kd.R_below (by (with_reducible repeat (first | apply Kd.R_alloc | apply Kd.R_drewN | apply Kd.R_drew)); exact HO_148001.out) hb); have n1_ := Aside0.mk (Kd.R_below (by (with_reducible repeat (first | apply Kd.R_alloc | apply Kd.R_drewN | apply Kd.R_drew)); exact HO_155001.out) hb); have n2_ := Aside0.mk (Kd.R_below (by (with_reducible repeat (first | apply Kd.R_alloc | apply Kd.R_drewN | apply Kd.R_drew)); exact HO_161001.out) hb); have n3_ := Aside0.mk (blk_below (g := gb147) (o := .cells #[.int .u32 t143, .slice Ao13 t144.length co13] 27 (0, 0)) (by (with_reducible repeat (first | refine blk_drewN ?_ _ | refine blk_drew ?_ | refine blk_alloc ?_ _)); exact BK147.out) hb); have n4_ := Aside0.mk (blk_below (g := gb154) (o := .cells #[.int .u32 t149, .slice Ao32 t150.length co32] 27 (0, 0)) (by (with_reducible repeat (first | refine blk_drewN ?_ _ | refine blk_drew ?_ | refine blk_alloc ?_ _)); exact BK154.out) hb); have n5_ := Aside0.mk (blk_below (g := gb160) (o := .cells #[.int .u32 t155, .slice Ao39 t156.length co39] 27 (0, 0)) (by (with_reducible repeat (first | refine blk_drewN ?_ _ | refine blk_drew ?_ | refine blk_alloc ?_ _)); exact BK160.out) hb); have n6_ := Aside0.mk (below_step (by repeat (first | (with_reducible first | exact HB.out | apply below_alloc | apply pw_below_drewN | apply below_drew1 | refine below_set ?_ GE147.out | refine below_set ?_ GE154.out | refine below_set ?_ GE160.out) | exact HB.out)) hb); clear HO_148001; clear HO_155001; clear HO_161001; clear BK147; clear BK154; clear BK160; clear HB; have HO_148001 := n0_; have HO_155001 := n1_; have HO_161001 := n2_; have BK147 := n3_; have BK154 := n4_; have BK160 := n5_; have HB := n6_; clear n0_ n1_ n2_ n3_ n4_ n5_ n6_; (try clear hb); (try clear hb2); (try clear hk); (try clear hi)))
                                go_meet
                                case rel => exact ⟨_, ((t169 != 1)), (by first | rfl | (simp; done) | (simp [*]; done)), H', ⟨by have := HK1.out; have := HJ20.out; have := HJ25.out; first | omega | exact Nat.le_refl _⟩, ⟨by (with_reducible repeat (first | apply Kd.R_alloc | apply Kd.R_drewN | apply Kd.R_drew)); exact HO_148001.out⟩, ⟨by (with_reducible repeat (first | apply Kd.R_alloc | apply Kd.R_drewN | apply Kd.R_drew)); exact HO_155001.out⟩, ⟨by (with_reducible repeat (first | apply Kd.R_alloc | apply Kd.R_drewN | apply Kd.R_drew)); exact HO_161001.out⟩, ⟨by (with_reducible repeat (first | refine blk_drewN ?_ _ | refine blk_drew ?_ | refine blk_alloc ?_ _)); exact BK147.out⟩, ⟨by (with_reducible repeat (first | refine blk_drewN ?_ _ | refine blk_drew ?_ | refine blk_alloc ?_ _)); exact BK154.out⟩, ⟨by (with_reducible repeat (first | refine blk_drewN ?_ _ | refine blk_drew ?_ | refine blk_alloc ?_ _)); exact BK160.out⟩, ⟨by repeat (first | (with_reducible first | exact HB.out | apply below_alloc | apply pw_below_drewN | apply below_drew1 | refine below_set ?_ GE147.out | refine below_set ?_ GE154.out | refine below_set ?_ GE160.out) | exact HB.out)⟩⟩
                              · rw [if_neg c118] at H
                                have c118b0 : (t168 == 1) = false := beq_eq_false_iff_ne.mpr c118
                                have c118b1 : (t168 != 1) = true := bne_iff_ne.mpr c118
                                have H' := Aside0.mk H
                                clear H
                                have hnb127 := NB154_147.out
                                have hnc127 := NB147_154.out
                                have hnb128 := NB154_160.out
                                have hnc128 := NB160_154.out
                                have hcz129_0 : wc.cell? ⟨gb154, 0, none⟩ = some (.int .u32 t149) := (blk_cell BK154.out 0).trans rfl
                                have hcz129_1 : wc.cell? ⟨gb154, 1, none⟩ = some (.slice Ao32 t150.length co32) := (blk_cell BK154.out 1).trans rfl
                                have hfz129_0 := blk_frozen BK154.out 0
                                have hfz129_1 := blk_frozen BK154.out 1
                                go_wp2_with (first | (go_at_call 18; (with_reducible refine (calls_Calls_Many.calls t149 _ _ t150 t168 _ ?side1 ?side2 A117.out).mono ?_); (case side1 => repeat (first | exact (Kd.R_reads' HO_155001.out).2.2 | (with_reducible refine Kd.C_alloc ?_ _) | (with_reducible refine Kd.C_drewN ?_ _) | (with_reducible refine Kd.C_drew ?_))); (case side2 => exact (Kd.R_reads' HO_155001.out).2.1); rintro e w130 ⟨rfl, hb⟩; have n0_ := Aside0.mk (Kd.R_below (by (with_reducible repeat (first | apply Kd.R_alloc | apply Kd.R_drewN | apply Kd.R_drew)); exact HO_148001.out) hb); have n1_ := Aside0.mk (Kd.R_below (by (with_reducible repeat (first | apply Kd.R_alloc | apply Kd.R_drewN | apply Kd.R_drew)); exact HO_155001.out) hb); have n2_ := Aside0.mk (Kd.R_below (by (with_reducible repeat (first | apply Kd.R_alloc | apply Kd.R_drewN | apply Kd.R_drew)); exact HO_161001.out) hb); have n3_ := Aside0.mk (blk_below (g := gb147) (o := .cells #[.int .u32 t143, .slice Ao13 t144.length co13] 27 (0, 0)) (by (with_reducible repeat (first | refine blk_drewN ?_ _ | refine blk_drew ?_ | refine blk_alloc ?_ _)); exact BK147.out) hb); have n4_ := Aside0.mk (blk_below (g := gb154) (o := .cells #[.int .u32 t149, .slice Ao32 t150.length co32] 27 (0, 0)) (by (with_reducible repeat (first | refine blk_drewN ?_ _ | refine blk_drew ?_ | refine blk_alloc ?_ _)); exact BK154.out) hb); have n5_ := Aside0.mk (blk_below (g := gb160) (o := .cells #[.int .u32 t155, .slice Ao39 t156.length co39] 27 (0, 0)) (by (with_reducible repeat (first | refine blk_drewN ?_ _ | refine blk_drew ?_ | refine blk_alloc ?_ _)); exact BK160.out) hb); have n6_ := Aside0.mk (below_step (by repeat (first | (with_reducible first | exact HB.out | apply below_alloc | apply pw_below_drewN | apply below_drew1 | refine below_set ?_ GE147.out | refine below_set ?_ GE154.out | refine below_set ?_ GE160.out) | exact HB.out)) hb); clear HO_148001; clear HO_155001; clear HO_161001; clear BK147; clear BK154; clear BK160; clear HB; have HO_148001 := n0_; have HO_155001 := n1_; have HO_161001 := n2_; have BK147 := n3_; have BK154 := n4_; have BK160 := n5_; have HB := n6_; clear n0_ n1_ n2_ n3_ n4_ n5_ n6_; (try clear hb); (try clear hb2); (try clear hk); (try clear hi)))
                                go_meet
                                case rel => exact ⟨_, (true), (by first | rfl | (simp; done) | (simp [*]; done)), H', ⟨by have := HK1.out; have := HJ20.out; have := HJ25.out; first | omega | exact Nat.le_refl _⟩, ⟨by (with_reducible repeat (first | apply Kd.R_alloc | apply Kd.R_drewN | apply Kd.R_drew)); exact HO_148001.out⟩, ⟨by (with_reducible repeat (first | apply Kd.R_alloc | apply Kd.R_drewN | apply Kd.R_drew)); exact HO_155001.out⟩, ⟨by (with_reducible repeat (first | apply Kd.R_alloc | apply Kd.R_drewN | apply Kd.R_drew)); exact HO_161001.out⟩, ⟨by (with_reducible repeat (first | refine blk_drewN ?_ _ | refine blk_drew ?_ | refine blk_alloc ?_ _)); exact BK147.out⟩, ⟨by (with_reducible repeat (first | refine blk_drewN ?_ _ | refine blk_drew ?_ | refine blk_alloc ?_ _)); exact BK154.out⟩, ⟨by (with_reducible repeat (first | refine blk_drewN ?_ _ | refine blk_drew ?_ | refine blk_alloc ?_ _)); exact BK160.out⟩, ⟨by repeat (first | (with_reducible first | exact HB.out | apply below_alloc | apply pw_below_drewN | apply below_drew1 | refine below_set ?_ GE147.out | refine below_set ?_ GE154.out | refine below_set ?_ GE160.out) | exact HB.out)⟩⟩
                            · replace c116 := Bool.eq_false_iff.mpr c116
                              subst c116
                              have H1 : ((calls_Calls_Many.f t155 t156).bind fun t170 => (if t170 = 0 then ((calls_Calls_Many.f t149 t150).bind fun t171 => (if t171 = 1 then (paternosterlaw22_CallsNone.j3 kj25 a0 a1 a2 (t144.length : Int) false t143 t144) else (paternosterlaw22_CallsNone.j3 kj25 a0 a1 a2 (t144.length : Int) true t143 t144))) else (paternosterlaw22_CallsNone.j3 kj25 a0 a1 a2 (t144.length : Int) true t143 t144))) = some r := by rw [if_neg (show ¬ (false = true) by decide)] at H; exact H
                              clear H
                              have H := H1
                              clear H1
                              replace H := Option.bind_eq_some_iff.mp H
                              obtain ⟨t170, A1310, H⟩ := H
                              replace H : (if t170 = 0 then ((calls_Calls_Many.f t149 t150).bind fun t171 => (if t171 = 1 then (paternosterlaw22_CallsNone.j3 kj25 a0 a1 a2 (t144.length : Int) false t143 t144) else (paternosterlaw22_CallsNone.j3 kj25 a0 a1 a2 (t144.length : Int) true t143 t144))) else (paternosterlaw22_CallsNone.j3 kj25 a0 a1 a2 (t144.length : Int) true t143 t144)) = some r := H
                              have A131 := Aside0.mk A1310
                              clear A1310
                              by_cases c132 : t170 = 0
                              · rw [if_pos c132] at H
                                have c132b0 : (t170 == 0) = true := beq_iff_eq.mpr c132
                                have c132b1 : (t170 != 0) = false := bne_eq_false_iff_eq.mpr c132
                                clear c132
                                replace H := Option.bind_eq_some_iff.mp H
                                obtain ⟨t171, A1330, H⟩ := H
                                replace H : (if t171 = 1 then (paternosterlaw22_CallsNone.j3 kj25 a0 a1 a2 (t144.length : Int) false t143 t144) else (paternosterlaw22_CallsNone.j3 kj25 a0 a1 a2 (t144.length : Int) true t143 t144)) = some r := H
                                have A133 := Aside0.mk A1330
                                clear A1330
                                by_cases c134 : t171 = 1
                                · rw [if_pos c134] at H
                                  have c134b0 : (t171 == 1) = true := beq_iff_eq.mpr c134
                                  have c134b1 : (t171 != 1) = false := bne_eq_false_iff_eq.mpr c134
                                  clear c134
                                  have H' := Aside0.mk H
                                  clear H
                                  have hnb135 := NB160_147.out
                                  have hnc135 := NB147_160.out
                                  have hnb136 := NB160_154.out
                                  have hnc136 := NB154_160.out
                                  have hcz137_0 : wc.cell? ⟨gb160, 0, none⟩ = some (.int .u32 t155) := (blk_cell BK160.out 0).trans rfl
                                  have hcz137_1 : wc.cell? ⟨gb160, 1, none⟩ = some (.slice Ao39 t156.length co39) := (blk_cell BK160.out 1).trans rfl
                                  have hfz137_0 := blk_frozen BK160.out 0
                                  have hfz137_1 := blk_frozen BK160.out 1
                                  go_wp2_with (first | (go_at_call 18; (with_reducible refine (calls_Calls_Many.calls t155 _ _ t156 t170 _ ?side1 ?side2 A131.out).mono ?_); (case side1 => repeat (first | exact (Kd.R_reads' HO_161001.out).2.2 | (with_reducible refine Kd.C_alloc ?_ _) | (with_reducible refine Kd.C_drewN ?_ _) | (with_reducible refine Kd.C_drew ?_))); (case side2 => exact (Kd.R_reads' HO_161001.out).2.1); rintro e w138 ⟨rfl, hb⟩; have n0_ := Aside0.mk (Kd.R_below (by (with_reducible repeat (first | apply Kd.R_alloc | apply Kd.R_drewN | apply Kd.R_drew)); exact HO_148001.out) hb); have n1_ := Aside0.mk (Kd.R_below (by (with_reducible repeat (first | apply Kd.R_alloc | apply Kd.R_drewN | apply Kd.R_drew)); exact HO_155001.out) hb); have n2_ := Aside0.mk (Kd.R_below (by (with_reducible repeat (first | apply Kd.R_alloc | apply Kd.R_drewN | apply Kd.R_drew)); exact HO_161001.out) hb); have n3_ := Aside0.mk (blk_below (g := gb147) (o := .cells #[.int .u32 t143, .slice Ao13 t144.length co13] 27 (0, 0)) (by (with_reducible repeat (first | refine blk_drewN ?_ _ | refine blk_drew ?_ | refine blk_alloc ?_ _)); exact BK147.out) hb); have n4_ := Aside0.mk (blk_below (g := gb154) (o := .cells #[.int .u32 t149, .slice Ao32 t150.length co32] 27 (0, 0)) (by (with_reducible repeat (first | refine blk_drewN ?_ _ | refine blk_drew ?_ | refine blk_alloc ?_ _)); exact BK154.out) hb); have n5_ := Aside0.mk (blk_below (g := gb160) (o := .cells #[.int .u32 t155, .slice Ao39 t156.length co39] 27 (0, 0)) (by (with_reducible repeat (first | refine blk_drewN ?_ _ | refine blk_drew ?_ | refine blk_alloc ?_ _)); exact BK160.out) hb); have n6_ := Aside0.mk (below_step (by repeat (first | (with_reducible first | exact HB.out | apply below_alloc | apply pw_below_drewN | apply below_drew1 | refine below_set ?_ GE147.out | refine below_set ?_ GE154.out | refine below_set ?_ GE160.out) | exact HB.out)) hb); clear HO_148001; clear HO_155001; clear HO_161001; clear BK147; clear BK154; clear BK160; clear HB; have HO_148001 := n0_; have HO_155001 := n1_; have HO_161001 := n2_; have BK147 := n3_; have BK154 := n4_; have BK160 := n5_; have HB := n6_; clear n0_ n1_ n2_ n3_ n4_ n5_ n6_; (try clear hb); (try clear hb2); (try clear hk); (try clear hi); have hnb139 := NB154_147.out; have hnc139 := NB147_154.out; have hcz140_0 : w138.cell? ⟨gb154, 0, none⟩ = some (.int .u32 t149) := (blk_cell BK154.out 0).trans rfl; have hcz140_1 : w138.cell? ⟨gb154, 1, none⟩ = some (.slice Ao32 t150.length co32) := (blk_cell BK154.out 1).trans rfl; have hfz140_0 := blk_frozen BK154.out 0; have hfz140_1 := blk_frozen BK154.out 1) | (go_at_call 18; (with_reducible refine (calls_Calls_Many.calls t149 _ _ t150 t171 _ ?side1 ?side2 A133.out).mono ?_); (case side1 => repeat (first | exact (Kd.R_reads' HO_155001.out).2.2 | (with_reducible refine Kd.C_alloc ?_ _) | (with_reducible refine Kd.C_drewN ?_ _) | (with_reducible refine Kd.C_drew ?_))); (case side2 => exact (Kd.R_reads' HO_155001.out).2.1); rintro e w141 ⟨rfl, hb⟩; have n0_ := Aside0.mk (Kd.R_below (by (with_reducible repeat (first | apply Kd.R_alloc | apply Kd.R_drewN | apply Kd.R_drew)); exact HO_148001.out) hb); have n1_ := Aside0.mk (Kd.R_below (by (with_reducible repeat (first | apply Kd.R_alloc | apply Kd.R_drewN | apply Kd.R_drew)); exact HO_155001.out) hb); have n2_ := Aside0.mk (Kd.R_below (by (with_reducible repeat (first | apply Kd.R_alloc | apply Kd.R_drewN | apply Kd.R_drew)); exact HO_161001.out) hb); have n3_ := Aside0.mk (blk_below (g := gb147) (o := .cells #[.int .u32 t143, .slice Ao13 t144.length co13] 27 (0, 0)) (by (with_reducible repeat (first | refine blk_drewN ?_ _ | refine blk_drew ?_ | refine blk_alloc ?_ _)); exact BK147.out) hb); have n4_ := Aside0.mk (blk_below (g := gb154) (o := .cells #[.int .u32 t149, .slice Ao32 t150.length co32] 27 (0, 0)) (by (with_reducible repeat (first | refine blk_drewN ?_ _ | refine blk_drew ?_ | refine blk_alloc ?_ _)); exact BK154.out) hb); have n5_ := Aside0.mk (blk_below (g := gb160) (o := .cells #[.int .u32 t155, .slice Ao39 t156.length co39] 27 (0, 0)) (by (with_reducible repeat (first | refine blk_drewN ?_ _ | refine blk_drew ?_ | refine blk_alloc ?_ _)); exact BK160.out) hb); have n6_ := Aside0.mk (below_step (by repeat (first | (with_reducible first | exact HB.out | apply below_alloc | apply pw_below_drewN | apply below_drew1 | refine below_set ?_ GE147.out | refine below_set ?_ GE154.out | refine below_set ?_ GE160.out) | exact HB.out)) hb); clear HO_148001; clear HO_155001; clear HO_161001; clear BK147; clear BK154; clear BK160; clear HB; have HO_148001 := n0_; have HO_155001 := n1_; have HO_161001 := n2_; have BK147 := n3_; have BK154 := n4_; have BK160 := n5_; have HB := n6_; clear n0_ n1_ n2_ n3_ n4_ n5_ n6_; (try clear hb); (try clear hb2); (try clear hk); (try clear hi)))
                                  go_meet
                                  case rel => exact ⟨_, (false), (by first | rfl | (simp; done) | (simp [*]; done)), H', ⟨by have := HK1.out; have := HJ20.out; have := HJ25.out; first | omega | exact Nat.le_refl _⟩, ⟨by (with_reducible repeat (first | apply Kd.R_alloc | apply Kd.R_drewN | apply Kd.R_drew)); exact HO_148001.out⟩, ⟨by (with_reducible repeat (first | apply Kd.R_alloc | apply Kd.R_drewN | apply Kd.R_drew)); exact HO_155001.out⟩, ⟨by (with_reducible repeat (first | apply Kd.R_alloc | apply Kd.R_drewN | apply Kd.R_drew)); exact HO_161001.out⟩, ⟨by (with_reducible repeat (first | refine blk_drewN ?_ _ | refine blk_drew ?_ | refine blk_alloc ?_ _)); exact BK147.out⟩, ⟨by (with_reducible repeat (first | refine blk_drewN ?_ _ | refine blk_drew ?_ | refine blk_alloc ?_ _)); exact BK154.out⟩, ⟨by (with_reducible repeat (first | refine blk_drewN ?_ _ | refine blk_drew ?_ | refine blk_alloc ?_ _)); exact BK160.out⟩, ⟨by repeat (first | (with_reducible first | exact HB.out | apply below_alloc | apply pw_below_drewN | apply below_drew1 | refine below_set ?_ GE147.out | refine below_set ?_ GE154.out | refine below_set ?_ GE160.out) | exact HB.out)⟩⟩
                                · rw [if_neg c134] at H
                                  have c134b0 : (t171 == 1) = false := beq_eq_false_iff_ne.mpr c134
                                  have c134b1 : (t171 != 1) = true := bne_iff_ne.mpr c134
                                  have H' := Aside0.mk H
                                  clear H
                                  have hnb142 := NB160_147.out
                                  have hnc142 := NB147_160.out
                                  have hnb143 := NB160_154.out
                                  have hnc143 := NB154_160.out
                                  have hcz144_0 : wc.cell? ⟨gb160, 0, none⟩ = some (.int .u32 t155) := (blk_cell BK160.out 0).trans rfl
                                  have hcz144_1 : wc.cell? ⟨gb160, 1, none⟩ = some (.slice Ao39 t156.length co39) := (blk_cell BK160.out 1).trans rfl
                                  have hfz144_0 := blk_frozen BK160.out 0
                                  have hfz144_1 := blk_frozen BK160.out 1
                                  go_wp2_with (first | (go_at_call 18; (with_reducible refine (calls_Calls_Many.calls t155 _ _ t156 t170 _ ?side1 ?side2 A131.out).mono ?_); (case side1 => repeat (first | exact (Kd.R_reads' HO_161001.out).2.2 | (with_reducible refine Kd.C_alloc ?_ _) | (with_reducible refine Kd.C_drewN ?_ _) | (with_reducible refine Kd.C_drew ?_))); (case side2 => exact (Kd.R_reads' HO_161001.out).2.1); rintro e w145 ⟨rfl, hb⟩; have n0_ := Aside0.mk (Kd.R_below (by (with_reducible repeat (first | apply Kd.R_alloc | apply Kd.R_drewN | apply Kd.R_drew)); exact HO_148001.out) hb); have n1_ := Aside0.mk (Kd.R_below (by (with_reducible repeat (first | apply Kd.R_alloc | apply Kd.R_drewN | apply Kd.R_drew)); exact HO_155001.out) hb); have n2_ := Aside0.mk (Kd.R_below (by (with_reducible repeat (first | apply Kd.R_alloc | apply Kd.R_drewN | apply Kd.R_drew)); exact HO_161001.out) hb); have n3_ := Aside0.mk (blk_below (g := gb147) (o := .cells #[.int .u32 t143, .slice Ao13 t144.length co13] 27 (0, 0)) (by (with_reducible repeat (first | refine blk_drewN ?_ _ | refine blk_drew ?_ | refine blk_alloc ?_ _)); exact BK147.out) hb); have n4_ := Aside0.mk (blk_below (g := gb154) (o := .cells #[.int .u32 t149, .slice Ao32 t150.length co32] 27 (0, 0)) (by (with_reducible repeat (first | refine blk_drewN ?_ _ | refine blk_drew ?_ | refine blk_alloc ?_ _)); exact BK154.out) hb); have n5_ := Aside0.mk (blk_below (g := gb160) (o := .cells #[.int .u32 t155, .slice Ao39 t156.length co39] 27 (0, 0)) (by (with_reducible repeat (first | refine blk_drewN ?_ _ | refine blk_drew ?_ | refine blk_alloc ?_ _)); exact BK160.out) hb); have n6_ := Aside0.mk (below_step (by repeat (first | (with_reducible first | exact HB.out | apply below_alloc | apply pw_below_drewN | apply below_drew1 | refine below_set ?_ GE147.out | refine below_set ?_ GE154.out | refine below_set ?_ GE160.out) | exact HB.out)) hb); clear HO_148001; clear HO_155001; clear HO_161001; clear BK147; clear BK154; clear BK160; clear HB; have HO_148001 := n0_; have HO_155001 := n1_; have HO_161001 := n2_; have BK147 := n3_; have BK154 := n4_; have BK160 := n5_; have HB := n6_; clear n0_ n1_ n2_ n3_ n4_ n5_ n6_; (try clear hb); (try clear hb2); (try clear hk); (try clear hi); have hnb146 := NB154_147.out; have hnc146 := NB147_154.out; have hcz147_0 : w145.cell? ⟨gb154, 0, none⟩ = some (.int .u32 t149) := (blk_cell BK154.out 0).trans rfl; have hcz147_1 : w145.cell? ⟨gb154, 1, none⟩ = some (.slice Ao32 t150.length co32) := (blk_cell BK154.out 1).trans rfl; have hfz147_0 := blk_frozen BK154.out 0; have hfz147_1 := blk_frozen BK154.out 1) | (go_at_call 18; (with_reducible refine (calls_Calls_Many.calls t149 _ _ t150 t171 _ ?side1 ?side2 A133.out).mono ?_); (case side1 => repeat (first | exact (Kd.R_reads' HO_155001.out).2.2 | (with_reducible refine Kd.C_alloc ?_ _) | (with_reducible refine Kd.C_drewN ?_ _) | (with_reducible refine Kd.C_drew ?_))); (case side2 => exact (Kd.R_reads' HO_155001.out).2.1); rintro e w148 ⟨rfl, hb⟩; have n0_ := Aside0.mk (Kd.R_below (by (with_reducible repeat (first | apply Kd.R_alloc | apply Kd.R_drewN | apply Kd.R_drew)); exact HO_148001.out) hb); have n1_ := Aside0.mk (Kd.R_below (by (with_reducible repeat (first | apply Kd.R_alloc | apply Kd.R_drewN | apply Kd.R_drew)); exact HO_155001.out) hb); have n2_ := Aside0.mk (Kd.R_below (by (with_reducible repeat (first | apply Kd.R_alloc | apply Kd.R_drewN | apply Kd.R_drew)); exact HO_161001.out) hb); have n3_ := Aside0.mk (blk_below (g := gb147) (o := .cells #[.int .u32 t143, .slice Ao13 t144.length co13] 27 (0, 0)) (by (with_reducible repeat (first | refine blk_drewN ?_ _ | refine blk_drew ?_ | refine blk_alloc ?_ _)); exact BK147.out) hb); have n4_ := Aside0.mk (blk_below (g := gb154) (o := .cells #[.int .u32 t149, .slice Ao32 t150.length co32] 27 (0, 0)) (by (with_reducible repeat (first | refine blk_drewN ?_ _ | refine blk_drew ?_ | refine blk_alloc ?_ _)); exact BK154.out) hb); have n5_ := Aside0.mk (blk_below (g := gb160) (o := .cells #[.int .u32 t155, .slice Ao39 t156.length co39] 27 (0, 0)) (by (with_reducible repeat (first | refine blk_drewN ?_ _ | refine blk_drew ?_ | refine blk_alloc ?_ _)); exact BK160.out) hb); have n6_ := Aside0.mk (below_step (by repeat (first | (with_reducible first | exact HB.out | apply below_alloc | apply pw_below_drewN | apply below_drew1 | refine below_set ?_ GE147.out | refine below_set ?_ GE154.out | refine below_set ?_ GE160.out) | exact HB.out)) hb); clear HO_148001; clear HO_155001; clear HO_161001; clear BK147; clear BK154; clear BK160; clear HB; have HO_148001 := n0_; have HO_155001 := n1_; have HO_161001 := n2_; have BK147 := n3_; have BK154 := n4_; have BK160 := n5_; have HB := n6_; clear n0_ n1_ n2_ n3_ n4_ n5_ n6_; (try clear hb); (try clear hb2); (try clear hk); (try clear hi)))
                                  go_meet
                                  case rel => exact ⟨_, (true), (by first | rfl | (simp; done) | (simp [*]; done)), H', ⟨by have := HK1.out; have := HJ20.out; have := HJ25.out; first | omega | exact Nat.le_refl _⟩, ⟨by (with_reducible repeat (first | apply Kd.R_alloc | apply Kd.R_drewN | apply Kd.R_drew)); exact HO_148001.out⟩, ⟨by (with_reducible repeat (first | apply Kd.R_alloc | apply Kd.R_drewN | apply Kd.R_drew)); exact HO_155001.out⟩, ⟨by (with_reducible repeat (first | apply Kd.R_alloc | apply Kd.R_drewN | apply Kd.R_drew)); exact HO_161001.out⟩, ⟨by (with_reducible repeat (first | refine blk_drewN ?_ _ | refine blk_drew ?_ | refine blk_alloc ?_ _)); exact BK147.out⟩, ⟨by (with_reducible repeat (first | refine blk_drewN ?_ _ | refine blk_drew ?_ | refine blk_alloc ?_ _)); exact BK154.out⟩, ⟨by (with_reducible repeat (first | refine blk_drewN ?_ _ | refine blk_drew ?_ | refine blk_alloc ?_ _)); exact BK160.out⟩, ⟨by repeat (first | (with_reducible first | exact HB.out | apply below_alloc | apply pw_below_drewN | apply below_drew1 | refine below_set ?_ GE147.out | refine below_set ?_ GE154.out | refine below_set ?_ GE160.out) | exact HB.out)⟩⟩
                              · rw [if_neg c132] at H
                                have c132b0 : (t170 == 0) = false := beq_eq_false_iff_ne.mpr c132
                                have c132b1 : (t170 != 0) = true := bne_iff_ne.mpr c132
                                have H' := Aside0.mk H
                                clear H
                                have hnb149 := NB160_147.out
                                have hnc149 := NB147_160.out
                                have hnb150 := NB160_154.out
                                have hnc150 := NB154_160.out
                                have hcz151_0 : wc.cell? ⟨gb160, 0, none⟩ = some (.int .u32 t155) := (blk_cell BK160.out 0).trans rfl
                                have hcz151_1 : wc.cell? ⟨gb160, 1, none⟩ = some (.slice Ao39 t156.length co39) := (blk_cell BK160.out 1).trans rfl
                                have hfz151_0 := blk_frozen BK160.out 0
                                have hfz151_1 := blk_frozen BK160.out 1
                                go_wp2_with (first | (go_at_call 18; (with_reducible refine (calls_Calls_Many.calls t155 _ _ t156 t170 _ ?side1 ?side2 A131.out).mono ?_); (case side1 => repeat (first | exact (Kd.R_reads' HO_161001.out).2.2 | (with_reducible refine Kd.C_alloc ?_ _) | (with_reducible refine Kd.C_drewN ?_ _) | (with_reducible refine Kd.C_drew ?_))); (case side2 => exact (Kd.R_reads' HO_161001.out).2.1); rintro e w152 ⟨rfl, hb⟩; have n0_ := Aside0.mk (Kd.R_below (by (with_reducible repeat (first | apply Kd.R_alloc | apply Kd.R_drewN | apply Kd.R_drew)); exact HO_148001.out) hb); have n1_ := Aside0.mk (Kd.R_below (by (with_reducible repeat (first | apply Kd.R_alloc | apply Kd.R_drewN | apply Kd.R_drew)); exact HO_155001.out) hb); have n2_ := Aside0.mk (Kd.R_below (by (with_reducible repeat (first | apply Kd.R_alloc | apply Kd.R_drewN | apply Kd.R_drew)); exact HO_161001.out) hb); have n3_ := Aside0.mk (blk_below (g := gb147) (o := .cells #[.int .u32 t143, .slice Ao13 t144.length co13] 27 (0, 0)) (by (with_reducible repeat (first | refine blk_drewN ?_ _ | refine blk_drew ?_ | refine blk_alloc ?_ _)); exact BK147.out) hb); have n4_ := Aside0.mk (blk_below (g := gb154) (o := .cells #[.int .u32 t149, .slice Ao32 t150.length co32] 27 (0, 0)) (by (with_reducible repeat (first | refine blk_drewN ?_ _ | refine blk_drew ?_ | refine blk_alloc ?_ _)); exact BK154.out) hb); have n5_ := Aside0.mk (blk_below (g := gb160) (o := .cells #[.int .u32 t155, .slice Ao39 t156.length co39] 27 (0, 0)) (by (with_reducible repeat (first | refine blk_drewN ?_ _ | refine blk_drew ?_ | refine blk_alloc ?_ _)); exact BK160.out) hb); have n6_ := Aside0.mk (below_step (by repeat (first | (with_reducible first | exact HB.out | apply below_alloc | apply pw_below_drewN | apply below_drew1 | refine below_set ?_ GE147.out | refine below_set ?_ GE154.out | refine below_set ?_ GE160.out) | exact HB.out)) hb); clear HO_148001; clear HO_155001; clear HO_161001; clear BK147; clear BK154; clear BK160; clear HB; have HO_148001 := n0_; have HO_155001 := n1_; have HO_161001 := n2_; have BK147 := n3_; have BK154 := n4_; have BK160 := n5_; have HB := n6_; clear n0_ n1_ n2_ n3_ n4_ n5_ n6_; (try clear hb); (try clear hb2); (try clear hk); (try clear hi)))
                                go_meet
                                case rel => exact ⟨_, (true), (by first | rfl | (simp; done) | (simp [*]; done)), H', ⟨by have := HK1.out; have := HJ20.out; have := HJ25.out; first | omega | exact Nat.le_refl _⟩, ⟨by (with_reducible repeat (first | apply Kd.R_alloc | apply Kd.R_drewN | apply Kd.R_drew)); exact HO_148001.out⟩, ⟨by (with_reducible repeat (first | apply Kd.R_alloc | apply Kd.R_drewN | apply Kd.R_drew)); exact HO_155001.out⟩, ⟨by (with_reducible repeat (first | apply Kd.R_alloc | apply Kd.R_drewN | apply Kd.R_drew)); exact HO_161001.out⟩, ⟨by (with_reducible repeat (first | refine blk_drewN ?_ _ | refine blk_drew ?_ | refine blk_alloc ?_ _)); exact BK147.out⟩, ⟨by (with_reducible repeat (first | refine blk_drewN ?_ _ | refine blk_drew ?_ | refine blk_alloc ?_ _)); exact BK154.out⟩, ⟨by (with_reducible repeat (first | refine blk_drewN ?_ _ | refine blk_drew ?_ | refine blk_alloc ?_ _)); exact BK160.out⟩, ⟨by repeat (first | (with_reducible first | exact HB.out | apply below_alloc | apply pw_below_drewN | apply below_drew1 | refine below_set ?_ GE147.out | refine below_set ?_ GE154.out | refine below_set ?_ GE160.out) | exact HB.out)⟩⟩
                          · replace c115 := Bool.eq_false_iff.mpr c115
                            subst c115
                            have H1 : ((calls_Calls_Many.f t149 t150).bind fun t172 => (if t172 = 0 then (if t159 = true then ((calls_Calls_Many.f t155 t156).bind fun t173 => (paternosterlaw22_CallsNone.j3 kj25 a0 a1 a2 (t144.length : Int) (t173 != 1) t143 t144)) else ((calls_Calls_Many.f t155 t156).bind fun t174 => (if t174 = 0 then (paternosterlaw22_CallsNone.j3 kj25 a0 a1 a2 (t144.length : Int) false t143 t144) else (paternosterlaw22_CallsNone.j3 kj25 a0 a1 a2 (t144.length : Int) true t143 t144)))) else (paternosterlaw22_CallsNone.j3 kj25 a0 a1 a2 (t144.length : Int) true t143 t144))) = some r := by rw [if_neg (show ¬ (false = true) by decide)] at H; exact H
                            clear H
                            have H := H1
                            clear H1
                            replace H := Option.bind_eq_some_iff.mp H
                            obtain ⟨t172, A1530, H⟩ := H
                            replace H : (if t172 = 0 then (if t159 = true then ((calls_Calls_Many.f t155 t156).bind fun t173 => (paternosterlaw22_CallsNone.j3 kj25 a0 a1 a2 (t144.length : Int) (t173 != 1) t143 t144)) else ((calls_Calls_Many.f t155 t156).bind fun t174 => (if t174 = 0 then (paternosterlaw22_CallsNone.j3 kj25 a0 a1 a2 (t144.length : Int) false t143 t144) else (paternosterlaw22_CallsNone.j3 kj25 a0 a1 a2 (t144.length : Int) true t143 t144)))) else (paternosterlaw22_CallsNone.j3 kj25 a0 a1 a2 (t144.length : Int) true t143 t144)) = some r := H
                            have A153 := Aside0.mk A1530
                            clear A1530
                            by_cases c154 : t172 = 0
                            · rw [if_pos c154] at H
                              have c154b0 : (t172 == 0) = true := beq_iff_eq.mpr c154
                              have c154b1 : (t172 != 0) = false := bne_eq_false_iff_eq.mpr c154
                              clear c154
                              by_cases c155 : t159 = true
                              · subst c155
                                have H1 : ((calls_Calls_Many.f t155 t156).bind fun t173 => (paternosterlaw22_CallsNone.j3 kj25 a0 a1 a2 (t144.length : Int) (t173 != 1) t143 t144)) = some r := by rw [if_pos rfl] at H; exact H
                                clear H
                                have H := H1
                                clear H1
                                replace H := Option.bind_eq_some_iff.mp H
                                obtain ⟨t173, A1560, H⟩ := H
                                replace H : (paternosterlaw22_CallsNone.j3 kj25 a0 a1 a2 (t144.length : Int) (t173 != 1) t143 t144) = some r := H
                                have A156 := Aside0.mk A1560
                                clear A1560
                                have H' := Aside0.mk H
                                clear H
                                have hnb157 := NB154_147.out
                                have hnc157 := NB147_154.out
                                have hnb158 := NB154_160.out
                                have hnc158 := NB160_154.out
                                have hcz159_0 : wc.cell? ⟨gb154, 0, none⟩ = some (.int .u32 t149) := (blk_cell BK154.out 0).trans rfl
                                have hcz159_1 : wc.cell? ⟨gb154, 1, none⟩ = some (.slice Ao32 t150.length co32) := (blk_cell BK154.out 1).trans rfl
                                have hfz159_0 := blk_frozen BK154.out 0
                                have hfz159_1 := blk_frozen BK154.out 1
                                go_wp2_with (first | (go_at_call 18; (with_reducible refine (calls_Calls_Many.calls t149 _ _ t150 t172 _ ?side1 ?side2 A153.out).mono ?_); (case side1 => repeat (first | exact (Kd.R_reads' HO_155001.out).2.2 | (with_reducible refine Kd.C_alloc ?_ _) | (with_reducible refine Kd.C_drewN ?_ _) | (with_reducible refine Kd.C_drew ?_))); (case side2 => exact (Kd.R_reads' HO_155001.out).2.1); rintro e w160 ⟨rfl, hb⟩; have n0_ := Aside0.mk (Kd.R_below (by (with_reducible repeat (first | apply Kd.R_alloc | apply Kd.R_drewN | apply Kd.R_drew)); exact HO_148001.out) hb); have n1_ := Aside0.mk (Kd.R_below (by (with_reducible repeat (first | apply Kd.R_alloc | apply Kd.R_drewN | apply Kd.R_drew)); exact HO_155001.out) hb); have n2_ := Aside0.mk (Kd.R_below (by (with_reducible repeat (first | apply Kd.R_alloc | apply Kd.R_drewN | apply Kd.R_drew)); exact HO_161001.out) hb); have n3_ := Aside0.mk (blk_below (g := gb147) (o := .cells #[.int .u32 t143, .slice Ao13 t144.length co13] 27 (0, 0)) (by (with_reducible repeat (first | refine blk_drewN ?_ _ | refine blk_drew ?_ | refine blk_alloc ?_ _)); exact BK147.out) hb); have n4_ := Aside0.mk (blk_below (g := gb154) (o := .cells #[.int .u32 t149, .slice Ao32 t150.length co32] 27 (0, 0)) (by (with_reducible repeat (first | refine blk_drewN ?_ _ | refine blk_drew ?_ | refine blk_alloc ?_ _)); exact BK154.out) hb); have n5_ := Aside0.mk (blk_below (g := gb160) (o := .cells #[.int .u32 t155, .slice Ao39 t156.length co39] 27 (0, 0)) (by (with_reducible repeat (first | refine blk_drewN ?_ _ | refine blk_drew ?_ | refine blk_alloc ?_ _)); exact BK160.out) hb); have n6_ := Aside0.mk (below_step (by repeat (first | (with_reducible first | exact HB.out | apply below_alloc | apply pw_below_drewN | apply below_drew1 | refine below_set ?_ GE147.out | refine below_set ?_ GE154.out | refine below_set ?_ GE160.out) | exact HB.out)) hb); clear HO_148001; clear HO_155001; clear HO_161001; clear BK147; clear BK154; clear BK160; clear HB; have HO_148001 := n0_; have HO_155001 := n1_; have HO_161001 := n2_; have BK147 := n3_; have BK154 := n4_; have BK160 := n5_; have HB := n6_; clear n0_ n1_ n2_ n3_ n4_ n5_ n6_; (try clear hb); (try clear hb2); (try clear hk); (try clear hi); have hnb161 := NB160_147.out; have hnc161 := NB147_160.out; have hcz162_0 : w160.cell? ⟨gb160, 0, none⟩ = some (.int .u32 t155) := (blk_cell BK160.out 0).trans rfl; have hcz162_1 : w160.cell? ⟨gb160, 1, none⟩ = some (.slice Ao39 t156.length co39) := (blk_cell BK160.out 1).trans rfl; have hfz162_0 := blk_frozen BK160.out 0; have hfz162_1 := blk_frozen BK160.out 1) | (go_at_call 18; (with_reducible refine (calls_Calls_Many.calls t155 _ _ t156 t173 _ ?side1 ?side2 A156.out).mono ?_); (case side1 => repeat (first | exact (Kd.R_reads' HO_161001.out).2.2 | (with_reducible refine Kd.C_alloc ?_ _) | (with_reducible refine Kd.C_drewN ?_ _) | (with_reducible refine Kd.C_drew ?_))); (case side2 => exact (Kd.R_reads' HO_161001.out).2.1); rintro e w163 ⟨rfl, hb⟩; have n0_ := Aside0.mk (Kd.R_below (by (with_reducible repeat (first | apply Kd.R_alloc | apply Kd.R_drewN | apply Kd.R_drew)); exact HO_148001.out) hb); have n1_ := Aside0.mk (Kd.R_below (by (with_reducible repeat (first | apply Kd.R_alloc | apply Kd.R_drewN | apply Kd.R_drew)); exact HO_155001.out) hb); have n2_ := Aside0.mk (Kd.R_below (by (with_reducible repeat (first | apply Kd.R_alloc | apply Kd.R_drewN | apply Kd.R_drew)); exact HO_161001.out) hb); have n3_ := Aside0.mk (blk_below (g := gb147) (o := .cells #[.int .u32 t143, .slice Ao13 t144.length co13] 27 (0, 0)) (by (with_reducible repeat (first | refine blk_drewN ?_ _ | refine blk_drew ?_ | refine blk_alloc ?_ _)); exact BK147.out) hb); have n4_ := Aside0.mk (blk_below (g := gb154) (o := .cells #[.int .u32 t149, .slice Ao32 t150.length co32] 27 (0, 0)) (by (with_reducible repeat (first | refine blk_drewN ?_ _ | refine blk_drew ?_ | refine blk_alloc ?_ _)); exact BK154.out) hb); have n5_ := Aside0.mk (blk_below (g := gb160) (o := .cells #[.int .u32 t155, .slice Ao39 t156.length co39] 27 (0, 0)) (by (with_reducible repeat (first | refine blk_drewN ?_ _ | refine blk_drew ?_ | refine blk_alloc ?_ _)); exact BK160.out) hb); have n6_ := Aside0.mk (below_step (by repeat (first | (with_reducible first | exact HB.out | apply below_alloc | apply pw_below_drewN | apply below_drew1 | refine below_set ?_ GE147.out | refine below_set ?_ GE154.out | refine below_set ?_ GE160.out) | exact HB.out)) hb); clear HO_148001; clear HO_155001; clear HO_161001; clear BK147; clear BK154; clear BK160; clear HB; have HO_148001 := n0_; have HO_155001 := n1_; have HO_161001 := n2_; have BK147 := n3_; have BK154 := n4_; have BK160 := n5_; have HB := n6_; clear n0_ n1_ n2_ n3_ n4_ n5_ n6_; (try clear hb); (try clear hb2); (try clear hk); (try clear hi)))
                                go_meet
                                case rel => exact ⟨_, ((t173 != 1)), (by first | rfl | (simp; done) | (simp [*]; done)), H', ⟨by have := HK1.out; have := HJ20.out; have := HJ25.out; first | omega | exact Nat.le_refl _⟩, ⟨by (with_reducible repeat (first | apply Kd.R_alloc | apply Kd.R_drewN | apply Kd.R_drew)); exact HO_148001.out⟩, ⟨by (with_reducible repeat (first | apply Kd.R_alloc | apply Kd.R_drewN | apply Kd.R_drew)); exact HO_155001.out⟩, ⟨by (with_reducible repeat (first | apply Kd.R_alloc | apply Kd.R_drewN | apply Kd.R_drew)); exact HO_161001.out⟩, ⟨by (with_reducible repeat (first | refine blk_drewN ?_ _ | refine blk_drew ?_ | refine blk_alloc ?_ _)); exact BK147.out⟩, ⟨by (with_reducible repeat (first | refine blk_drewN ?_ _ | refine blk_drew ?_ | refine blk_alloc ?_ _)); exact BK154.out⟩, ⟨by (with_reducible repeat (first | refine blk_drewN ?_ _ | refine blk_drew ?_ | refine blk_alloc ?_ _)); exact BK160.out⟩, ⟨by repeat (first | (with_reducible first | exact HB.out | apply below_alloc | apply pw_below_drewN | apply below_drew1 | refine below_set ?_ GE147.out | refine below_set ?_ GE154.out | refine below_set ?_ GE160.out) | exact HB.out)⟩⟩
                              · replace c155 := Bool.eq_false_iff.mpr c155
                                subst c155
                                have H1 : ((calls_Calls_Many.f t155 t156).bind fun t174 => (if t174 = 0 then (paternosterlaw22_CallsNone.j3 kj25 a0 a1 a2 (t144.length : Int) false t143 t144) else (paternosterlaw22_CallsNone.j3 kj25 a0 a1 a2 (t144.length : Int) true t143 t144))) = some r := by rw [if_neg (show ¬ (false = true) by decide)] at H; exact H
                                clear H
                                have H := H1
                                clear H1
                                replace H := Option.bind_eq_some_iff.mp H
                                obtain ⟨t174, A1640, H⟩ := H
                                replace H : (if t174 = 0 then (paternosterlaw22_CallsNone.j3 kj25 a0 a1 a2 (t144.length : Int) false t143 t144) else (paternosterlaw22_CallsNone.j3 kj25 a0 a1 a2 (t144.length : Int) true t143 t144)) = some r := H
                                have A164 := Aside0.mk A1640
                                clear A1640
                                by_cases c165 : t174 = 0
                                · rw [if_pos c165] at H
                                  have c165b0 : (t174 == 0) = true := beq_iff_eq.mpr c165
                                  have c165b1 : (t174 != 0) = false := bne_eq_false_iff_eq.mpr c165
                                  clear c165
                                  have H' := Aside0.mk H
                                  clear H
                                  have hnb166 := NB154_147.out
                                  have hnc166 := NB147_154.out
                                  have hnb167 := NB154_160.out
                                  have hnc167 := NB160_154.out
                                  have hcz168_0 : wc.cell? ⟨gb154, 0, none⟩ = some (.int .u32 t149) := (blk_cell BK154.out 0).trans rfl
                                  have hcz168_1 : wc.cell? ⟨gb154, 1, none⟩ = some (.slice Ao32 t150.length co32) := (blk_cell BK154.out 1).trans rfl
                                  have hfz168_0 := blk_frozen BK154.out 0
                                  have hfz168_1 := blk_frozen BK154.out 1
                                  go_wp2_with (first | (go_at_call 18; (with_reducible refine (calls_Calls_Many.calls t149 _ _ t150 t172 _ ?side1 ?side2 A153.out).mono ?_); (case side1 => repeat (first | exact (Kd.R_reads' HO_155001.out).2.2 | (with_reducible refine Kd.C_alloc ?_ _) | (with_reducible refine Kd.C_drewN ?_ _) | (with_reducible refine Kd.C_drew ?_))); (case side2 => exact (Kd.R_reads' HO_155001.out).2.1); rintro e w169 ⟨rfl, hb⟩; have n0_ := Aside0.mk (Kd.R_below (by (with_reducible repeat (first | apply Kd.R_alloc | apply Kd.R_drewN | apply Kd.R_drew)); exact HO_148001.out) hb); have n1_ := Aside0.mk (Kd.R_below (by (with_reducible repeat (first | apply Kd.R_alloc | apply Kd.R_drewN | apply Kd.R_drew)); exact HO_155001.out) hb); have n2_ := Aside0.mk (Kd.R_below (by (with_reducible repeat (first | apply Kd.R_alloc | apply Kd.R_drewN | apply Kd.R_drew)); exact HO_161001.out) hb); have n3_ := Aside0.mk (blk_below (g := gb147) (o := .cells #[.int .u32 t143, .slice Ao13 t144.length co13] 27 (0, 0)) (by (with_reducible repeat (first | refine blk_drewN ?_ _ | refine blk_drew ?_ | refine blk_alloc ?_ _)); exact BK147.out) hb); have n4_ := Aside0.mk (blk_below (g := gb154) (o := .cells #[.int .u32 t149, .slice Ao32 t150.length co32] 27 (0, 0)) (by (with_reducible repeat (first | refine blk_drewN ?_ _ | refine blk_drew ?_ | refine blk_alloc ?_ _)); exact BK154.out) hb); have n5_ := Aside0.mk (blk_below (g := gb160) (o := .cells #[.int .u32 t155, .slice Ao39 t156.length co39] 27 (0, 0)) (by (with_reducible repeat (first | refine blk_drewN ?_ _ | refine blk_drew ?_ | refine blk_alloc ?_ _)); exact BK160.out) hb); have n6_ := Aside0.mk (below_step (by repeat (first | (with_reducible first | exact HB.out | apply below_alloc | apply pw_below_drewN | apply below_drew1 | refine below_set ?_ GE147.out | refine below_set ?_ GE154.out | refine below_set ?_ GE160.out) | exact HB.out)) hb); clear HO_148001; clear HO_155001; clear HO_161001; clear BK147; clear BK154; clear BK160; clear HB; have HO_148001 := n0_; have HO_155001 := n1_; have HO_161001 := n2_; have BK147 := n3_; have BK154 := n4_; have BK160 := n5_; have HB := n6_; clear n0_ n1_ n2_ n3_ n4_ n5_ n6_; (try clear hb); (try clear hb2); (try clear hk); (try clear hi); have hnb170 := NB160_147.out; have hnc170 := NB147_160.out; have hcz171_0 : w169.cell? ⟨gb160, 0, none⟩ = some (.int .u32 t155) := (blk_cell BK160.out 0).trans rfl; have hcz171_1 : w169.cell? ⟨gb160, 1, none⟩ = some (.slice Ao39 t156.length co39) := (blk_cell BK160.out 1).trans rfl; have hfz171_0 := blk_frozen BK160.out 0; have hfz171_1 := blk_frozen BK160.out 1) | (go_at_call 18; (with_reducible refine (calls_Calls_Many.calls t155 _ _ t156 t174 _ ?side1 ?side2 A164.out).mono ?_); (case side1 => repeat (first | exact (Kd.R_reads' HO_161001.out).2.2 | (with_reducible refine Kd.C_alloc ?_ _) | (with_reducible refine Kd.C_drewN ?_ _) | (with_reducible refine Kd.C_drew ?_))); (case side2 => exact (Kd.R_reads' HO_161001.out).2.1); rintro e w172 ⟨rfl, hb⟩; have n0_ := Aside0.mk (Kd.R_below (by (with_reducible repeat (first | apply Kd.R_alloc | apply Kd.R_drewN | apply Kd.R_drew)); exact HO_148001.out) hb); have n1_ := Aside0.mk (Kd.R_below (by (with_reducible repeat (first | apply Kd.R_alloc | apply Kd.R_drewN | apply Kd.R_drew)); exact HO_155001.out) hb); have n2_ := Aside0.mk (Kd.R_below (by (with_reducible repeat (first | apply Kd.R_alloc | apply Kd.R_drewN | apply Kd.R_drew)); exact HO_161001.out) hb); have n3_ := Aside0.mk (blk_below (g := gb147) (o := .cells #[.int .u32 t143, .slice Ao13 t144.length co13] 27 (0, 0)) (by (with_reducible repeat (first | refine blk_drewN ?_ _ | refine blk_drew ?_ | refine blk_alloc ?_ _)); exact BK147.out) hb); have n4_ := Aside0.mk (blk_below (g := gb154) (o := .cells #[.int .u32 t149, .slice Ao32 t150.length co32] 27 (0, 0)) (by (with_reducible repeat (first | refine blk_drewN ?_ _ | refine blk_drew ?_ | refine blk_alloc ?_ _)); exact BK154.out) hb); have n5_ := Aside0.mk (blk_below (g := gb160) (o := .cells #[.int .u32 t155, .slice Ao39 t156.length co39] 27 (0, 0)) (by (with_reducible repeat (first | refine blk_drewN ?_ _ | refine blk_drew ?_ | refine blk_alloc ?_ _)); exact BK160.out) hb); have n6_ := Aside0.mk (below_step (by repeat (first | (with_reducible first | exact HB.out | apply below_alloc | apply pw_below_drewN | apply below_drew1 | refine below_set ?_ GE147.out | refine below_set ?_ GE154.out | refine below_set ?_ GE160.out) | exact HB.out)) hb); clear HO_148001; clear HO_155001; clear HO_161001; clear BK147; clear BK154; clear BK160; clear HB; have HO_148001 := n0_; have HO_155001 := n1_; have HO_161001 := n2_; have BK147 := n3_; have BK154 := n4_; have BK160 := n5_; have HB := n6_; clear n0_ n1_ n2_ n3_ n4_ n5_ n6_; (try clear hb); (try clear hb2); (try clear hk); (try clear hi)))
                                  go_meet
                                  case rel => exact ⟨_, (false), (by first | rfl | (simp; done) | (simp [*]; done)), H', ⟨by have := HK1.out; have := HJ20.out; have := HJ25.out; first | omega | exact Nat.le_refl _⟩, ⟨by (with_reducible repeat (first | apply Kd.R_alloc | apply Kd.R_drewN | apply Kd.R_drew)); exact HO_148001.out⟩, ⟨by (with_reducible repeat (first | apply Kd.R_alloc | apply Kd.R_drewN | apply Kd.R_drew)); exact HO_155001.out⟩, ⟨by (with_reducible repeat (first | apply Kd.R_alloc | apply Kd.R_drewN | apply Kd.R_drew)); exact HO_161001.out⟩, ⟨by (with_reducible repeat (first | refine blk_drewN ?_ _ | refine blk_drew ?_ | refine blk_alloc ?_ _)); exact BK147.out⟩, ⟨by (with_reducible repeat (first | refine blk_drewN ?_ _ | refine blk_drew ?_ | refine blk_alloc ?_ _)); exact BK154.out⟩, ⟨by (with_reducible repeat (first | refine blk_drewN ?_ _ | refine blk_drew ?_ | refine blk_alloc ?_ _)); exact BK160.out⟩, ⟨by repeat (first | (with_reducible first | exact HB.out | apply below_alloc | apply pw_below_drewN | apply below_drew1 | refine below_set ?_ GE147.out | refine below_set ?_ GE154.out | refine below_set ?_ GE160.out) | exact HB.out)⟩⟩
                                · rw [if_neg c165] at H
                                  have c165b0 : (t174 == 0) = false := beq_eq_false_iff_ne.mpr c165
                                  have c165b1 : (t174 != 0) = true := bne_iff_ne.mpr c165
                                  have H' := Aside0.mk H
                                  clear H
                                  have hnb173 := NB154_147.out
                                  have hnc173 := NB147_154.out
                                  have hnb174 := NB154_160.out
                                  have hnc174 := NB160_154.out
                                  have hcz175_0 : wc.cell? ⟨gb154, 0, none⟩ = some (.int .u32 t149) := (blk_cell BK154.out 0).trans rfl
                                  have hcz175_1 : wc.cell? ⟨gb154, 1, none⟩ = some (.slice Ao32 t150.length co32) := (blk_cell BK154.out 1).trans rfl
                                  have hfz175_0 := blk_frozen BK154.out 0
                                  have hfz175_1 := blk_frozen BK154.out 1
                                  go_wp2_with (first | (go_at_call 18; (with_reducible refine (calls_Calls_Many.calls t149 _ _ t150 t172 _ ?side1 ?side2 A153.out).mono ?_); (case side1 => repeat (first | exact (Kd.R_reads' HO_155001.out).2.2 | (with_reducible refine Kd.C_alloc ?_ _) | (with_reducible refine Kd.C_drewN ?_ _) | (with_reducible refine Kd.C_drew ?_))); (case side2 => exact (Kd.R_reads' HO_155001.out).2.1); rintro e w176 ⟨rfl, hb⟩; have n0_ := Aside0.mk (Kd.R_below (by (with_reducible repeat (first | apply Kd.R_alloc | apply Kd.R_drewN | apply Kd.R_drew)); exact HO_148001.out) hb); have n1_ := Aside0.mk (Kd.R_below (by (with_reducible repeat (first | apply Kd.R_alloc | apply Kd.R_drewN | apply Kd.R_drew)); exact HO_155001.out) hb); have n2_ := Aside0.mk (Kd.R_below (by (with_reducible repeat (first | apply Kd.R_alloc | apply Kd.R_drewN | apply Kd.R_drew)); exact HO_161001.out) hb); have n3_ := Aside0.mk (blk_below (g := gb147) (o := .cells #[.int .u32 t143, .slice Ao13 t144.length co13] 27 (0, 0)) (by (with_reducible repeat (first | refine blk_drewN ?_ _ | refine blk_drew ?_ | refine blk_alloc ?_ _)); exact BK147.out) hb); have n4_ := Aside0.mk (blk_below (g := gb154) (o := .cells #[.int .u32 t149, .slice Ao32 t150.length co32] 27 (0, 0)) (by (with_reducible repeat (first | refine blk_drewN ?_ _ | refine blk_drew ?_ | refine blk_alloc ?_ _)); exact BK154.out) hb); have n5_ := Aside0.mk (blk_below (g := gb160) (o := .cells #[.int .u32 t155, .slice Ao39 t156.length co39] 27 (0, 0)) (by (with_reducible repeat (first | refine blk_drewN ?_ _ | refine blk_drew ?_ | refine blk_alloc ?_ _)); exact BK160.out) hb); have n6_ := Aside0.mk (below_step (by repeat (first | (with_reducible first | exact HB.out | apply below_alloc | apply pw_below_drewN | apply below_drew1 | refine below_set ?_ GE147.out | refine below_set ?_ GE154.out | refine below_set ?_ GE160.out) | exact HB.out)) hb); clear HO_148001; clear HO_155001; clear HO_161001; clear BK147; clear BK154; clear BK160; clear HB; have HO_148001 := n0_; have HO_155001 := n1_; have HO_161001 := n2_; have BK147 := n3_; have BK154 := n4_; have BK160 := n5_; have HB := n6_; clear n0_ n1_ n2_ n3_ n4_ n5_ n6_; (try clear hb); (try clear hb2); (try clear hk); (try clear hi); have hnb177 := NB160_147.out; have hnc177 := NB147_160.out; have hcz178_0 : w176.cell? ⟨gb160, 0, none⟩ = some (.int .u32 t155) := (blk_cell BK160.out 0).trans rfl; have hcz178_1 : w176.cell? ⟨gb160, 1, none⟩ = some (.slice Ao39 t156.length co39) := (blk_cell BK160.out 1).trans rfl; have hfz178_0 := blk_frozen BK160.out 0; have hfz178_1 := blk_frozen BK160.out 1) | (go_at_call 18; (with_reducible refine (calls_Calls_Many.calls t155 _ _ t156 t174 _ ?side1 ?side2 A164.out).mono ?_); (case side1 => repeat (first | exact (Kd.R_reads' HO_161001.out).2.2 | (with_reducible refine Kd.C_alloc ?_ _) | (with_reducible refine Kd.C_drewN ?_ _) | (with_reducible refine Kd.C_drew ?_))); (case side2 => exact (Kd.R_reads' HO_161001.out).2.1); rintro e w179 ⟨rfl, hb⟩; have n0_ := Aside0.mk (Kd.R_below (by (with_reducible repeat (first | apply Kd.R_alloc | apply Kd.R_drewN | apply Kd.R_drew)); exact HO_148001.out) hb); have n1_ := Aside0.mk (Kd.R_below (by (with_reducible repeat (first | apply Kd.R_alloc | apply Kd.R_drewN | apply Kd.R_drew)); exact HO_155001.out) hb); have n2_ := Aside0.mk (Kd.R_below (by (with_reducible repeat (first | apply Kd.R_alloc | apply Kd.R_drewN | apply Kd.R_drew)); exact HO_161001.out) hb); have n3_ := Aside0.mk (blk_below (g := gb147) (o := .cells #[.int .u32 t143, .slice Ao13 t144.length co13] 27 (0, 0)) (by (with_reducible repeat (first | refine blk_drewN ?_ _ | refine blk_drew ?_ | refine blk_alloc ?_ _)); exact BK147.out) hb); have n4_ := Aside0.mk (blk_below (g := gb154) (o := .cells #[.int .u32 t149, .slice Ao32 t150.length co32] 27 (0, 0)) (by (with_reducible repeat (first | refine blk_drewN ?_ _ | refine blk_drew ?_ | refine blk_alloc ?_ _)); exact BK154.out) hb); have n5_ := Aside0.mk (blk_below (g := gb160) (o := .cells #[.int .u32 t155, .slice Ao39 t156.length co39] 27 (0, 0)) (by (with_reducible repeat (first | refine blk_drewN ?_ _ | refine blk_drew ?_ | refine blk_alloc ?_ _)); exact BK160.out) hb); have n6_ := Aside0.mk (below_step (by repeat (first | (with_reducible first | exact HB.out | apply below_alloc | apply pw_below_drewN | apply below_drew1 | refine below_set ?_ GE147.out | refine below_set ?_ GE154.out | refine below_set ?_ GE160.out) | exact HB.out)) hb); clear HO_148001; clear HO_155001; clear HO_161001; clear BK147; clear BK154; clear BK160; clear HB; have HO_148001 := n0_; have HO_155001 := n1_; have HO_161001 := n2_; have BK147 := n3_; have BK154 := n4_; have BK160 := n5_; have HB := n6_; clear n0_ n1_ n2_ n3_ n4_ n5_ n6_; (try clear hb); (try clear hb2); (try clear hk); (try clear hi)))
                                  go_meet
                                  case rel => exact ⟨_, (true), (by first | rfl | (simp; done) | (simp [*]; done)), H', ⟨by have := HK1.out; have := HJ20.out; have := HJ25.out; first | omega | exact Nat.le_refl _⟩, ⟨by (with_reducible repeat (first | apply Kd.R_alloc | apply Kd.R_drewN | apply Kd.R_drew)); exact HO_148001.out⟩, ⟨by (with_reducible repeat (first | apply Kd.R_alloc | apply Kd.R_drewN | apply Kd.R_drew)); exact HO_155001.out⟩, ⟨by (with_reducible repeat (first | apply Kd.R_alloc | apply Kd.R_drewN | apply Kd.R_drew)); exact HO_161001.out⟩, ⟨by (with_reducible repeat (first | refine blk_drewN ?_ _ | refine blk_drew ?_ | refine blk_alloc ?_ _)); exact BK147.out⟩, ⟨by (with_reducible repeat (first | refine blk_drewN ?_ _ | refine blk_drew ?_ | refine blk_alloc ?_ _)); exact BK154.out⟩, ⟨by (with_reducible repeat (first | refine blk_drewN ?_ _ | refine blk_drew ?_ | refine blk_alloc ?_ _)); exact BK160.out⟩, ⟨by repeat (first | (with_reducible first | exact HB.out | apply below_alloc | apply pw_below_drewN | apply below_drew1 | refine below_set ?_ GE147.out | refine below_set ?_ GE154.out | refine below_set ?_ GE160.out) | exact HB.out)⟩⟩
                            · rw [if_neg c154] at H
                              have c154b0 : (t172 == 0) = false := beq_eq_false_iff_ne.mpr c154
                              have c154b1 : (t172 != 0) = true := bne_iff_ne.mpr c154
                              have H' := Aside0.mk H
                              clear H
                              have hnb180 := NB154_147.out
                              have hnc180 := NB147_154.out
                              have hnb181 := NB154_160.out
                              have hnc181 := NB160_154.out
                              have hcz182_0 : wc.cell? ⟨gb154, 0, none⟩ = some (.int .u32 t149) := (blk_cell BK154.out 0).trans rfl
                              have hcz182_1 : wc.cell? ⟨gb154, 1, none⟩ = some (.slice Ao32 t150.length co32) := (blk_cell BK154.out 1).trans rfl
                              have hfz182_0 := blk_frozen BK154.out 0
                              have hfz182_1 := blk_frozen BK154.out 1
                              go_wp2_with (first | (go_at_call 18; (with_reducible refine (calls_Calls_Many.calls t149 _ _ t150 t172 _ ?side1 ?side2 A153.out).mono ?_); (case side1 => repeat (first | exact (Kd.R_reads' HO_155001.out).2.2 | (with_reducible refine Kd.C_alloc ?_ _) | (with_reducible refine Kd.C_drewN ?_ _) | (with_reducible refine Kd.C_drew ?_))); (case side2 => exact (Kd.R_reads' HO_155001.out).2.1); rintro e w183 ⟨rfl, hb⟩; have n0_ := Aside0.mk (Kd.R_below (by (with_reducible repeat (first | apply Kd.R_alloc | apply Kd.R_drewN | apply Kd.R_drew)); exact HO_148001.out) hb); have n1_ := Aside0.mk (Kd.R_below (by (with_reducible repeat (first | apply Kd.R_alloc | apply Kd.R_drewN | apply Kd.R_drew)); exact HO_155001.out) hb); have n2_ := Aside0.mk (Kd.R_below (by (with_reducible repeat (first | apply Kd.R_alloc | apply Kd.R_drewN | apply Kd.R_drew)); exact HO_161001.out) hb); have n3_ := Aside0.mk (blk_below (g := gb147) (o := .cells #[.int .u32 t143, .slice Ao13 t144.length co13] 27 (0, 0)) (by (with_reducible repeat (first | refine blk_drewN ?_ _ | refine blk_drew ?_ | refine blk_alloc ?_ _)); exact BK147.out) hb); have n4_ := Aside0.mk (blk_below (g := gb154) (o := .cells #[.int .u32 t149, .slice Ao32 t150.length co32] 27 (0, 0)) (by (with_reducible repeat (first | refine blk_drewN ?_ _ | refine blk_drew ?_ | refine blk_alloc ?_ _)); exact BK154.out) hb); have n5_ := Aside0.mk (blk_below (g := gb160) (o := .cells #[.int .u32 t155, .slice Ao39 t156.length co39] 27 (0, 0)) (by (with_reducible repeat (first | refine blk_drewN ?_ _ | refine blk_drew ?_ | refine blk_alloc ?_ _)); exact BK160.out) hb); have n6_ := Aside0.mk (below_step (by repeat (first | (with_reducible first | exact HB.out | apply below_alloc | apply pw_below_drewN | apply below_drew1 | refine below_set ?_ GE147.out | refine below_set ?_ GE154.out | refine below_set ?_ GE160.out) | exact HB.out)) hb); clear HO_148001; clear HO_155001; clear HO_161001; clear BK147; clear BK154; clear BK160; clear HB; have HO_148001 := n0_; have HO_155001 := n1_; have HO_161001 := n2_; have BK147 := n3_; have BK154 := n4_; have BK160 := n5_; have HB := n6_; clear n0_ n1_ n2_ n3_ n4_ n5_ n6_; (try clear hb); (try clear hb2); (try clear hk); (try clear hi)))
                              go_meet
                              case rel => exact ⟨_, (true), (by first | rfl | (simp; done) | (simp [*]; done)), H', ⟨by have := HK1.out; have := HJ20.out; have := HJ25.out; first | omega | exact Nat.le_refl _⟩, ⟨by (with_reducible repeat (first | apply Kd.R_alloc | apply Kd.R_drewN | apply Kd.R_drew)); exact HO_148001.out⟩, ⟨by (with_reducible repeat (first | apply Kd.R_alloc | apply Kd.R_drewN | apply Kd.R_drew)); exact HO_155001.out⟩, ⟨by (with_reducible repeat (first | apply Kd.R_alloc | apply Kd.R_drewN | apply Kd.R_drew)); exact HO_161001.out⟩, ⟨by (with_reducible repeat (first | refine blk_drewN ?_ _ | refine blk_drew ?_ | refine blk_alloc ?_ _)); exact BK147.out⟩, ⟨by (with_reducible repeat (first | refine blk_drewN ?_ _ | refine blk_drew ?_ | refine blk_alloc ?_ _)); exact BK154.out⟩, ⟨by (with_reducible repeat (first | refine blk_drewN ?_ _ | refine blk_drew ?_ | refine blk_alloc ?_ _)); exact BK160.out⟩, ⟨by repeat (first | (with_reducible first | exact HB.out | apply below_alloc | apply pw_below_drewN | apply below_drew1 | refine below_set ?_ GE147.out | refine below_set ?_ GE154.out | refine below_set ?_ GE160.out) | exact HB.out)⟩⟩
                  case rest =>
                    clear HC41
                    try clear c1
                    try clear c2
                    try clear p2
                    try clear c3
                    try clear c4
                    try clear c5
                    try clear c6
                    try clear p6
                    try clear c7
                    try clear c8
                    try clear c9
                    try clear c10
                    try clear c11
                    try clear c12
                    try clear c13
                    try clear c14
                    try clear c14b0
                    try clear c15
                    try clear c16
                    try clear c16b0
                    try clear c16b1
                    try clear c17
                    try clear c18
                    try clear c22
                    try clear c22b0
                    try clear c23
                    try clear c23b0
                    try clear c30
                    try clear c36
                    try clear c37
                    try clear c40
                    try clear c40b0
                    try clear c42
                    try clear c42b0
                    try clear c42b1
                    try clear c42b2
                    try clear c43
                    try clear c44
                    try clear c44b0
                    try clear c44b1
                    try clear c44b2
                    try clear c45
                    try clear c46
                    try clear c48
                    try clear c48b0
                    try clear c48b1
                    try clear c50
                    try clear c51
                    try clear c54
                    try clear c57
                    try clear c58
                    try clear c62
                    try clear c62b0
                    try clear c62b1
                    try clear c64
                    try clear c64b0
                    try clear c64b1
                    try clear c65
                    try clear c66
                    try clear c69
                    try clear c72
                    try clear c73
                    try clear c76
                    try clear c79
                    try clear c80
                    try clear c84
                    try clear c84b0
                    try clear c84b1
                    try clear c85
                    try clear c87
                    try clear c88
                    try clear c91
                    try clear c95
                    try clear c95b0
                    try clear c95b1
                    try clear c96
                    try clear c97
                    try clear c100
                    try clear c103
                    try clear c104
                    try clear c107
                    try clear c110
                    try clear c111
                    try clear c114
                    try clear c114b0
                    try clear c114b1
                    try clear c114b2
                    try clear c115
                    try clear c116
                    try clear c118
                    try clear c118b0
                    try clear c118b1
                    try clear c120
                    try clear c121
                    try clear c124
                    try clear c127
                    try clear c128
                    try clear c132
                    try clear c132b0
                    try clear c132b1
                    try clear c134
                    try clear c134b0
                    try clear c134b1
                    try clear c135
                    try clear c136
                    try clear c139
                    try clear c142
                    try clear c143
                    try clear c146
                    try clear c149
                    try clear c150
                    try clear c154
                    try clear c154b0
                    try clear c154b1
                    try clear c155
                    try clear c157
                    try clear c158
                    try clear c161
                    try clear c165
                    try clear c165b0
                    try clear c165b1
                    try clear c166
                    try clear c167
                    try clear c170
                    try clear c173
                    try clear c174
                    try clear c177
                    try clear c180
                    try clear c181
                    try clear hcz101_0
                    try clear hcz101_1
                    try clear hcz105_0
                    try clear hcz105_1
                    try clear hcz108_0
                    try clear hcz108_1
                    try clear hcz112_0
                    try clear hcz112_1
                    try clear hcz122_0
                    try clear hcz122_1
                    try clear hcz125_0
                    try clear hcz125_1
                    try clear hcz129_0
                    try clear hcz129_1
                    try clear hcz12_0
                    try clear hcz12_1
                    try clear hcz137_0
                    try clear hcz137_1
                    try clear hcz140_0
                    try clear hcz140_1
                    try clear hcz144_0
                    try clear hcz144_1
                    try clear hcz147_0
                    try clear hcz147_1
                    try clear hcz151_0
                    try clear hcz151_1
                    try clear hcz159_0
                    try clear hcz159_1
                    try clear hcz162_0
                    try clear hcz162_1
                    try clear hcz168_0
                    try clear hcz168_1
                    try clear hcz171_0
                    try clear hcz171_1
                    try clear hcz175_0
                    try clear hcz175_1
                    try clear hcz178_0
                    try clear hcz178_1
                    try clear hcz17_0
                    try clear hcz17_1
                    try clear hcz182_0
                    try clear hcz182_1
                    try clear hcz19_0
                    try clear hcz19_1
                    try clear hcz27_0
                    try clear hcz27_1
                    try clear hcz31_0
                    try clear hcz31_1
                    try clear hcz33_0
                    try clear hcz33_1
                    try clear hcz38_0
                    try clear hcz38_1
                    try clear hcz52_0
                    try clear hcz52_1
                    try clear hcz55_0
                    try clear hcz55_1
                    try clear hcz59_0
                    try clear hcz59_1
                    try clear hcz67_0
                    try clear hcz67_1
                    try clear hcz70_0
                    try clear hcz70_1
                    try clear hcz74_0
                    try clear hcz74_1
                    try clear hcz77_0
                    try clear hcz77_1
                    try clear hcz81_0
                    try clear hcz81_1
                    try clear hcz89_0
                    try clear hcz89_1
                    try clear hcz92_0
                    try clear hcz92_1
                    try clear hcz98_0
                    try clear hcz98_1
                    try clear hfz101_0
                    try clear hfz101_1
                    try clear hfz105_0
                    try clear hfz105_1
                    try clear hfz108_0
                    try clear hfz108_1
                    try clear hfz112_0
                    try clear hfz112_1
                    try clear hfz122_0
                    try clear hfz122_1
                    try clear hfz125_0
                    try clear hfz125_1
                    try clear hfz129_0
                    try clear hfz129_1
                    try clear hfz12_0
                    try clear hfz12_1
                    try clear hfz137_0
                    try clear hfz137_1
                    try clear hfz140_0
                    try clear hfz140_1
                    try clear hfz144_0
                    try clear hfz144_1
                    try clear hfz147_0
                    try clear hfz147_1
                    try clear hfz151_0
                    try clear hfz151_1
                    try clear hfz159_0
                    try clear hfz159_1
                    try clear hfz162_0
                    try clear hfz162_1
                    try clear hfz168_0
                    try clear hfz168_1
                    try clear hfz171_0
                    try clear hfz171_1
                    try clear hfz175_0
                    try clear hfz175_1
                    try clear hfz178_0
                    try clear hfz178_1
                    try clear hfz17_0
                    try clear hfz17_1
                    try clear hfz182_0
                    try clear hfz182_1
                    try clear hfz19_0
                    try clear hfz19_1
                    try clear hfz27_0
                    try clear hfz27_1
                    try clear hfz31_0
                    try clear hfz31_1
                    try clear hfz33_0
                    try clear hfz33_1
                    try clear hfz38_0
                    try clear hfz38_1
                    try clear hfz52_0
                    try clear hfz52_1
                    try clear hfz55_0
                    try clear hfz55_1
                    try clear hfz59_0
                    try clear hfz59_1
                    try clear hfz67_0
                    try clear hfz67_1
                    try clear hfz70_0
                    try clear hfz70_1
                    try clear hfz74_0
                    try clear hfz74_1
                    try clear hfz77_0
                    try clear hfz77_1
                    try clear hfz81_0
                    try clear hfz81_1
                    try clear hfz89_0
                    try clear hfz89_1
                    try clear hfz92_0
                    try clear hfz92_1
                    try clear hfz98_0
                    try clear hfz98_1
                    try clear p2
                    try clear p6
                    obtain ⟨kq, x120_40, rfl, HA, HJ40, HO_148001, HO_155001, HO_161001, BK147, BK154, BK160, HB⟩ := hcut
                    cases kq with
                    | zero => exact absurd HA.out (by simp [paternosterlaw22_CallsNone.j3])
                    | succ kj40 =>
                      have H := HA.out
                      clear HA
                      simp only [paternosterlaw22_CallsNone.j3] at H
                      by_cases c184 : x120_40 = true
                      · subst c184
                        have H1 : (some false) = some r := by rw [if_pos rfl] at H; exact H
                        clear H
                        have H := H1
                        clear H1
                        obtain rfl := Option.some.inj H
                        go_wp2
                        go_ret
                        exact ⟨by first | rfl | (simp [errW_none, errW_some] <;> rfl) | (simp [*, errW_none, errW_some] <;> rfl), by repeat (first | (with_reducible first | exact HB.out | apply below_alloc | apply pw_below_drewN | apply below_drew1 | refine below_set ?_ GE147.out | refine below_set ?_ GE154.out | refine below_set ?_ GE160.out) | exact HB.out)⟩
                      · replace c184 := Bool.eq_false_iff.mpr c184
                        subst c184
                        have H1 : ((calls_Calls_Many.f t143 t144).bind fun t175 => (if t175 = 0 then ((calls_Calls_Done.f t143 t144 a1 a2 true).bind fun bt176 => ((calls_Calls_Many.f bt176.1 bt176.2).bind fun t180 => (if t180 = 0 then (if (t144.length : Int) ≤ 64 then (if (t144.length : Int) = a0 then (some true) else (some ((t144.length : Int) == 0))) else (some false)) else (some false)))) else (some false))) = some r := by rw [if_neg (show ¬ (false = true) by decide)] at H; exact H
                        clear H
                        have H := H1
                        clear H1
                        replace H := Option.bind_eq_some_iff.mp H
                        obtain ⟨t175, A1850, H⟩ := H
                        replace H : (if t175 = 0 then ((calls_Calls_Done.f t143 t144 a1 a2 true).bind fun bt176 => ((calls_Calls_Many.f bt176.1 bt176.2).bind fun t180 => (if t180 = 0 then (if (t144.length : Int) ≤ 64 then (if (t144.length : Int) = a0 then (some true) else (some ((t144.length : Int) == 0))) else (some false)) else (some false)))) else (some false)) = some r := H
                        have A185 := Aside0.mk A1850
                        clear A1850
                        by_cases c186 : t175 = 0
                        · rw [if_pos c186] at H
                          have c186b0 : (t175 == 0) = true := beq_iff_eq.mpr c186
                          have c186b1 : (t175 != 0) = false := bne_eq_false_iff_eq.mpr c186
                          clear c186
                          replace H := Option.bind_eq_some_iff.mp H
                          obtain ⟨⟨t176, t177⟩, A1870, H⟩ := H
                          replace H : ((calls_Calls_Many.f t176 t177).bind fun t180 => (if t180 = 0 then (if (t144.length : Int) ≤ 64 then (if (t144.length : Int) = a0 then (some true) else (some ((t144.length : Int) == 0))) else (some false)) else (some false))) = some r := H
                          have A187 := Aside0.mk A1870
                          clear A1870
                          replace H := Option.bind_eq_some_iff.mp H
                          obtain ⟨t180, A1880, H⟩ := H
                          replace H : (if t180 = 0 then (if (t144.length : Int) ≤ 64 then (if (t144.length : Int) = a0 then (some true) else (some ((t144.length : Int) == 0))) else (some false)) else (some false)) = some r := H
                          have A188 := Aside0.mk A1880
                          clear A1880
                          by_cases c189 : t180 = 0
                          · rw [if_pos c189] at H
                            have c189b0 : (t180 == 0) = true := beq_iff_eq.mpr c189
                            have c189b1 : (t180 != 0) = false := bne_eq_false_iff_eq.mpr c189
                            clear c189
                            by_cases c190 : (t144.length : Int) ≤ 64
                            · rw [if_pos c190] at H
                              have c190b0 : decide ((t144.length : Int) ≤ 64) = true := decide_eq_true c190
                              have c190b1 : decide (t144.length ≤ 64) = true := decide_eq_true (by omega)
                              clear c190
                              by_cases c191 : (t144.length : Int) = a0
                              · rw [if_pos c191] at H
                                have c191b0 : ((t144.length : Int) == a0) = true := beq_iff_eq.mpr c191
                                have c191b1 : ((t144.length : Int) != a0) = false := bne_eq_false_iff_eq.mpr c191
                                clear c191
                                obtain rfl := Option.some.inj H
                                have hnb192 := NB147_154.out
                                have hnc192 := NB154_147.out
                                have hnb193 := NB147_160.out
                                have hnc193 := NB160_147.out
                                have hcz194_0 : wc.cell? ⟨gb147, 0, none⟩ = some (.int .u32 t143) := (blk_cell BK147.out 0).trans rfl
                                have hcz194_1 : wc.cell? ⟨gb147, 1, none⟩ = some (.slice Ao13 t144.length co13) := (blk_cell BK147.out 1).trans rfl
                                have hfz194_0 := blk_frozen BK147.out 0
                                have hfz194_1 := blk_frozen BK147.out 1
                                go_wp2_with (first | ((with_reducible refine gate_callee (f := 18) rfl ?_); refine goesL_ (some 122) rfl rfl Tryd.func18 (by kernel_rfl) rfl #[.agg #[.int .u32 t143, .slice Ao13 t144.length co13]] rfl (by (try simp only [List.map_toArray, List.map_cons, List.map_nil]); first | done | rfl | (simp only [List.length_drop, List.length_take]; rfl)) ?_; (with_reducible refine (calls_Calls_Many.calls t143 _ _ t144 t175 _ ?side1 ?side2 A185.out).mono ?_); (case side1 => repeat (first | exact (Kd.R_reads' HO_148001.out).2.2 | (with_reducible refine Kd.C_alloc ?_ _) | (with_reducible refine Kd.C_drewN ?_ _) | (with_reducible refine Kd.C_drew ?_))); (case side2 => exact (Kd.R_reads' HO_148001.out).2.1); rintro e w195 ⟨rfl, hb⟩; refine ⟨_, rfl, ?_⟩; have n0_ := Aside0.mk (Kd.R_below (by (with_reducible repeat (first | apply Kd.R_alloc | apply Kd.R_drewN | apply Kd.R_drew)); exact HO_148001.out) hb); have n1_ := Aside0.mk (Kd.R_below (by (with_reducible repeat (first | apply Kd.R_alloc | apply Kd.R_drewN | apply Kd.R_drew)); exact HO_155001.out) hb); have n2_ := Aside0.mk (Kd.R_below (by (with_reducible repeat (first | apply Kd.R_alloc | apply Kd.R_drewN | apply Kd.R_drew)); exact HO_161001.out) hb); have n3_ := Aside0.mk (blk_below (g := gb147) (o := .cells #[.int .u32 t143, .slice Ao13 t144.length co13] 27 (0, 0)) (by (with_reducible repeat (first | refine blk_drewN ?_ _ | refine blk_drew ?_ | refine blk_alloc ?_ _)); exact BK147.out) hb); have n4_ := Aside0.mk (blk_below (g := gb154) (o := .cells #[.int .u32 t149, .slice Ao32 t150.length co32] 27 (0, 0)) (by (with_reducible repeat (first | refine blk_drewN ?_ _ | refine blk_drew ?_ | refine blk_alloc ?_ _)); exact BK154.out) hb); have n5_ := Aside0.mk (blk_below (g := gb160) (o := .cells #[.int .u32 t155, .slice Ao39 t156.length co39] 27 (0, 0)) (by (with_reducible repeat (first | refine blk_drewN ?_ _ | refine blk_drew ?_ | refine blk_alloc ?_ _)); exact BK160.out) hb); have n6_ := Aside0.mk (below_step (by repeat (first | (with_reducible first | exact HB.out | apply below_alloc | apply pw_below_drewN | apply below_drew1 | refine below_set ?_ GE147.out | refine below_set ?_ GE154.out | refine below_set ?_ GE160.out) | exact HB.out)) hb); clear HO_148001; clear HO_155001; clear HO_161001; clear BK147; clear BK154; clear BK160; clear HB; have HO_148001 := n0_; have HO_155001 := n1_; have HO_161001 := n2_; have BK147 := n3_; have BK154 := n4_; have BK160 := n5_; have HB := n6_; clear n0_ n1_ n2_ n3_ n4_ n5_ n6_; (try clear hb); (try clear hb2); (try clear hk); (try clear hi); have hcz196_0 : w195.cell? ⟨gb147, 0, none⟩ = some (.int .u32 t143) := (blk_cell BK147.out 0).trans rfl; have hcz196_1 : w195.cell? ⟨gb147, 1, none⟩ = some (.slice Ao13 t144.length co13) := (blk_cell BK147.out 1).trans rfl; have hfz196_0 := blk_frozen BK147.out 0; have hfz196_1 := blk_frozen BK147.out 1) | (go_at_call 14; (with_reducible refine (calls_Calls_Done.calls t143 _ _ t144 a1 a2 true t176 t177 _ ?side1 ?side2 A187.out).mono ?_); (case side1 => repeat (first | exact (Kd.R_reads' HO_148001.out).2.2 | (with_reducible refine Kd.C_alloc ?_ _) | (with_reducible refine Kd.C_drewN ?_ _) | (with_reducible refine Kd.C_drew ?_))); (case side2 => exact (Kd.R_reads' HO_148001.out).2.1); rintro e w197 ⟨v178, rfl, ho0, hb⟩; have n0_ := Aside0.mk (Kd.R_elder' (by (with_reducible repeat (first | apply Kd.R_alloc | apply Kd.R_drewN | apply Kd.R_drew)); exact HO_148001.out) (Kd.R_base ho0) hb); have n1_ := Aside0.mk (Kd.R_elder' (by (with_reducible repeat (first | apply Kd.R_alloc | apply Kd.R_drewN | apply Kd.R_drew)); exact HO_155001.out) (Kd.R_base ho0) hb); have n2_ := Aside0.mk (Kd.R_elder' (by (with_reducible repeat (first | apply Kd.R_alloc | apply Kd.R_drewN | apply Kd.R_drew)); exact HO_161001.out) (Kd.R_base ho0) hb); have n3_ := Aside0.mk (Kd.R_lower (Kd.R_new' (Kd.R_new' (Kd.R_new' ho0 (Kd.R_lt (by (with_reducible repeat (first | apply Kd.R_alloc | apply Kd.R_drewN | apply Kd.R_drew)); exact HO_148001.out))) (Kd.R_lt (by (with_reducible repeat (first | apply Kd.R_alloc | apply Kd.R_drewN | apply Kd.R_drew)); exact HO_155001.out))) (Kd.R_lt (by (with_reducible repeat (first | apply Kd.R_alloc | apply Kd.R_drewN | apply Kd.R_drew)); exact HO_161001.out))) (below_size (by repeat (first | (with_reducible first | exact HB.out | apply below_alloc | apply pw_below_drewN | apply below_drew1 | refine below_set ?_ GE147.out | refine below_set ?_ GE154.out | refine below_set ?_ GE160.out) | exact HB.out)))); have n4_ := Aside0.mk (blk_below (g := gb147) (o := .cells #[.int .u32 t143, .slice Ao13 t144.length co13] 27 (0, 0)) (by (with_reducible repeat (first | refine blk_drewN ?_ _ | refine blk_drew ?_ | refine blk_alloc ?_ _)); exact BK147.out) hb); have n5_ := Aside0.mk (blk_below (g := gb154) (o := .cells #[.int .u32 t149, .slice Ao32 t150.length co32] 27 (0, 0)) (by (with_reducible repeat (first | refine blk_drewN ?_ _ | refine blk_drew ?_ | refine blk_alloc ?_ _)); exact BK154.out) hb); have n6_ := Aside0.mk (blk_below (g := gb160) (o := .cells #[.int .u32 t155, .slice Ao39 t156.length co39] 27 (0, 0)) (by (with_reducible repeat (first | refine blk_drewN ?_ _ | refine blk_drew ?_ | refine blk_alloc ?_ _)); exact BK160.out) hb); have n7_ := Aside0.mk (below_step (by repeat (first | (with_reducible first | exact HB.out | apply below_alloc | apply pw_below_drewN | apply below_drew1 | refine below_set ?_ GE147.out | refine below_set ?_ GE154.out | refine below_set ?_ GE160.out) | exact HB.out)) hb); clear HO_148001; clear HO_155001; clear HO_161001; clear BK147; clear BK154; clear BK160; clear HB; have HO_148001 := n0_; have HO_155001 := n1_; have HO_161001 := n2_; have HO179 := n3_; have BK147 := n4_; have BK154 := n5_; have BK160 := n6_; have HB := n7_; clear n0_ n1_ n2_ n3_ n4_ n5_ n6_ n7_; (try clear hb); (try clear hb2); (try clear hk); (try clear hi); (try clear ho0); obtain ⟨Ao198, co198, eo198⟩ := Kd.R_slice HO179.out; subst eo198) | (go_at_call 18; (with_reducible refine (calls_Calls_Many.calls t176 _ _ t177 t180 _ ?side1 ?side2 A188.out).mono ?_); (case side1 => repeat (first | exact (Kd.R_reads' HO179.out).2.2 | (with_reducible refine Kd.C_alloc ?_ _) | (with_reducible refine Kd.C_drewN ?_ _) | (with_reducible refine Kd.C_drew ?_))); (case side2 => exact (Kd.R_reads' HO179.out).2.1); rintro e w199 ⟨rfl, hb⟩; have n0_ := Aside0.mk (Kd.R_below (by (with_reducible repeat (first | apply Kd.R_alloc | apply Kd.R_drewN | apply Kd.R_drew)); exact HO_148001.out) hb); have n1_ := Aside0.mk (Kd.R_below (by (with_reducible repeat (first | apply Kd.R_alloc | apply Kd.R_drewN | apply Kd.R_drew)); exact HO_155001.out) hb); have n2_ := Aside0.mk (Kd.R_below (by (with_reducible repeat (first | apply Kd.R_alloc | apply Kd.R_drewN | apply Kd.R_drew)); exact HO_161001.out) hb); have n3_ := Aside0.mk (Kd.R_below (by (with_reducible repeat (first | apply Kd.R_alloc | apply Kd.R_drewN | apply Kd.R_drew)); exact HO179.out) hb); have n4_ := Aside0.mk (blk_below (g := gb147) (o := .cells #[.int .u32 t143, .slice Ao13 t144.length co13] 27 (0, 0)) (by (with_reducible repeat (first | refine blk_drewN ?_ _ | refine blk_drew ?_ | refine blk_alloc ?_ _)); exact BK147.out) hb); have n5_ := Aside0.mk (blk_below (g := gb154) (o := .cells #[.int .u32 t149, .slice Ao32 t150.length co32] 27 (0, 0)) (by (with_reducible repeat (first | refine blk_drewN ?_ _ | refine blk_drew ?_ | refine blk_alloc ?_ _)); exact BK154.out) hb); have n6_ := Aside0.mk (blk_below (g := gb160) (o := .cells #[.int .u32 t155, .slice Ao39 t156.length co39] 27 (0, 0)) (by (with_reducible repeat (first | refine blk_drewN ?_ _ | refine blk_drew ?_ | refine blk_alloc ?_ _)); exact BK160.out) hb); have n7_ := Aside0.mk (below_step (by repeat (first | (with_reducible first | exact HB.out | apply below_alloc | apply pw_below_drewN | apply below_drew1 | refine below_set ?_ GE147.out | refine below_set ?_ GE154.out | refine below_set ?_ GE160.out) | exact HB.out)) hb); clear HO_148001; clear HO_155001; clear HO_161001; clear HO179; clear BK147; clear BK154; clear BK160; clear HB; have HO_148001 := n0_; have HO_155001 := n1_; have HO_161001 := n2_; have HO179 := n3_; have BK147 := n4_; have BK154 := n5_; have BK160 := n6_; have HB := n7_; clear n0_ n1_ n2_ n3_ n4_ n5_ n6_ n7_; (try clear hb); (try clear hb2); (try clear hk); (try clear hi)))
                                go_ret
                                exact ⟨by first | rfl | (simp [errW_none, errW_some] <;> rfl) | (simp [*, errW_none, errW_some] <;> rfl), by repeat (first | (with_reducible first | exact HB.out | apply below_alloc | apply pw_below_drewN | apply below_drew1 | refine below_set ?_ GE147.out | refine below_set ?_ GE154.out | refine below_set ?_ GE160.out) | exact HB.out)⟩
                              · rw [if_neg c191] at H
                                have c191b0 : ((t144.length : Int) == a0) = false := beq_eq_false_iff_ne.mpr c191
                                have c191b1 : ((t144.length : Int) != a0) = true := bne_iff_ne.mpr c191
                                obtain rfl := Option.some.inj H
                                have hnb200 := NB147_154.out
                                have hnc200 := NB154_147.out
                                have hnb201 := NB147_160.out
                                have hnc201 := NB160_147.out
                                have hcz202_0 : wc.cell? ⟨gb147, 0, none⟩ = some (.int .u32 t143) := (blk_cell BK147.out 0).trans rfl
                                have hcz202_1 : wc.cell? ⟨gb147, 1, none⟩ = some (.slice Ao13 t144.length co13) := (blk_cell BK147.out 1).trans rfl
                                have hfz202_0 := blk_frozen BK147.out 0
                                have hfz202_1 := blk_frozen BK147.out 1
                                go_wp2_with (first | ((with_reducible refine gate_callee (f := 18) rfl ?_); refine goesL_ (some 122) rfl rfl Tryd.func18 (by kernel_rfl) rfl #[.agg #[.int .u32 t143, .slice Ao13 t144.length co13]] rfl (by (try simp only [List.map_toArray, List.map_cons, List.map_nil]); first | done | rfl | (simp only [List.length_drop, List.length_take]; rfl)) ?_; (with_reducible refine (calls_Calls_Many.calls t143 _ _ t144 t175 _ ?side1 ?side2 A185.out).mono ?_); (case side1 => repeat (first | exact (Kd.R_reads' HO_148001.out).2.2 | (with_reducible refine Kd.C_alloc ?_ _) | (with_reducible refine Kd.C_drewN ?_ _) | (with_reducible refine Kd.C_drew ?_))); (case side2 => exact (Kd.R_reads' HO_148001.out).2.1); rintro e w203 ⟨rfl, hb⟩; refine ⟨_, rfl, ?_⟩; have n0_ := Aside0.mk (Kd.R_below (by (with_reducible repeat (first | apply Kd.R_alloc | apply Kd.R_drewN | apply Kd.R_drew)); exact HO_148001.out) hb); have n1_ := Aside0.mk (Kd.R_below (by (with_reducible repeat (first | apply Kd.R_alloc | apply Kd.R_drewN | apply Kd.R_drew)); exact HO_155001.out) hb); have n2_ := Aside0.mk (Kd.R_below (by (with_reducible repeat (first | apply Kd.R_alloc | apply Kd.R_drewN | apply Kd.R_drew)); exact HO_161001.out) hb); have n3_ := Aside0.mk (blk_below (g := gb147) (o := .cells #[.int .u32 t143, .slice Ao13 t144.length co13] 27 (0, 0)) (by (with_reducible repeat (first | refine blk_drewN ?_ _ | refine blk_drew ?_ | refine blk_alloc ?_ _)); exact BK147.out) hb); have n4_ := Aside0.mk (blk_below (g := gb154) (o := .cells #[.int .u32 t149, .slice Ao32 t150.length co32] 27 (0, 0)) (by (with_reducible repeat (first | refine blk_drewN ?_ _ | refine blk_drew ?_ | refine blk_alloc ?_ _)); exact BK154.out) hb); have n5_ := Aside0.mk (blk_below (g := gb160) (o := .cells #[.int .u32 t155, .slice Ao39 t156.length co39] 27 (0, 0)) (by (with_reducible repeat (first | refine blk_drewN ?_ _ | refine blk_drew ?_ | refine blk_alloc ?_ _)); exact BK160.out) hb); have n6_ := Aside0.mk (below_step (by repeat (first | (with_reducible first | exact HB.out | apply below_alloc | apply pw_below_drewN | apply below_drew1 | refine below_set ?_ GE147.out | refine below_set ?_ GE154.out | refine below_set ?_ GE160.out) | exact HB.out)) hb); clear HO_148001; clear HO_155001; clear HO_161001; clear BK147; clear BK154; clear BK160; clear HB; have HO_148001 := n0_; have HO_155001 := n1_; have HO_161001 := n2_; have BK147 := n3_; have BK154 := n4_; have BK160 := n5_; have HB := n6_; clear n0_ n1_ n2_ n3_ n4_ n5_ n6_; (try clear hb); (try clear hb2); (try clear hk); (try clear hi); have hcz204_0 : w203.cell? ⟨gb147, 0, none⟩ = some (.int .u32 t143) := (blk_cell BK147.out 0).trans rfl; have hcz204_1 : w203.cell? ⟨gb147, 1, none⟩ = some (.slice Ao13 t144.length co13) := (blk_cell BK147.out 1).trans rfl; have hfz204_0 := blk_frozen BK147.out 0; have hfz204_1 := blk_frozen BK147.out 1) | (go_at_call 14; (with_reducible refine (calls_Calls_Done.calls t143 _ _ t144 a1 a2 true t176 t177 _ ?side1 ?side2 A187.out).mono ?_); (case side1 => repeat (first | exact (Kd.R_reads' HO_148001.out).2.2 | (with_reducible refine Kd.C_alloc ?_ _) | (with_reducible refine Kd.C_drewN ?_ _) | (with_reducible refine Kd.C_drew ?_))); (case side2 => exact (Kd.R_reads' HO_148001.out).2.1); rintro e w205 ⟨v178, rfl, ho0, hb⟩; have n0_ := Aside0.mk (Kd.R_elder' (by (with_reducible repeat (first | apply Kd.R_alloc | apply Kd.R_drewN | apply Kd.R_drew)); exact HO_148001.out) (Kd.R_base ho0) hb); have n1_ := Aside0.mk (Kd.R_elder' (by (with_reducible repeat (first | apply Kd.R_alloc | apply Kd.R_drewN | apply Kd.R_drew)); exact HO_155001.out) (Kd.R_base ho0) hb); have n2_ := Aside0.mk (Kd.R_elder' (by (with_reducible repeat (first | apply Kd.R_alloc | apply Kd.R_drewN | apply Kd.R_drew)); exact HO_161001.out) (Kd.R_base ho0) hb); have n3_ := Aside0.mk (Kd.R_lower (Kd.R_new' (Kd.R_new' (Kd.R_new' ho0 (Kd.R_lt (by (with_reducible repeat (first | apply Kd.R_alloc | apply Kd.R_drewN | apply Kd.R_drew)); exact HO_148001.out))) (Kd.R_lt (by (with_reducible repeat (first | apply Kd.R_alloc | apply Kd.R_drewN | apply Kd.R_drew)); exact HO_155001.out))) (Kd.R_lt (by (with_reducible repeat (first | apply Kd.R_alloc | apply Kd.R_drewN | apply Kd.R_drew)); exact HO_161001.out))) (below_size (by repeat (first | (with_reducible first | exact HB.out | apply below_alloc | apply pw_below_drewN | apply below_drew1 | refine below_set ?_ GE147.out | refine below_set ?_ GE154.out | refine below_set ?_ GE160.out) | exact HB.out)))); have n4_ := Aside0.mk (blk_below (g := gb147) (o := .cells #[.int .u32 t143, .slice Ao13 t144.length co13] 27 (0, 0)) (by (with_reducible repeat (first | refine blk_drewN ?_ _ | refine blk_drew ?_ | refine blk_alloc ?_ _)); exact BK147.out) hb); have n5_ := Aside0.mk (blk_below (g := gb154) (o := .cells #[.int .u32 t149, .slice Ao32 t150.length co32] 27 (0, 0)) (by (with_reducible repeat (first | refine blk_drewN ?_ _ | refine blk_drew ?_ | refine blk_alloc ?_ _)); exact BK154.out) hb); have n6_ := Aside0.mk (blk_below (g := gb160) (o := .cells #[.int .u32 t155, .slice Ao39 t156.length co39] 27 (0, 0)) (by (with_reducible repeat (first | refine blk_drewN ?_ _ | refine blk_drew ?_ | refine blk_alloc ?_ _)); exact BK160.out) hb); have n7_ := Aside0.mk (below_step (by repeat (first | (with_reducible first | exact HB.out | apply below_alloc | apply pw_below_drewN | apply below_drew1 | refine below_set ?_ GE147.out | refine below_set ?_ GE154.out | refine below_set ?_ GE160.out) | exact HB.out)) hb); clear HO_148001; clear HO_155001; clear HO_161001; clear BK147; clear BK154; clear BK160; clear HB; have HO_148001 := n0_; have HO_155001 := n1_; have HO_161001 := n2_; have HO179 := n3_; have BK147 := n4_; have BK154 := n5_; have BK160 := n6_; have HB := n7_; clear n0_ n1_ n2_ n3_ n4_ n5_ n6_ n7_; (try clear hb); (try clear hb2); (try clear hk); (try clear hi); (try clear ho0); obtain ⟨Ao206, co206, eo206⟩ := Kd.R_slice HO179.out; subst eo206) | (go_at_call 18; (with_reducible refine (calls_Calls_Many.calls t176 _ _ t177 t180 _ ?side1 ?side2 A188.out).mono ?_); (case side1 => repeat (first | exact (Kd.R_reads' HO179.out).2.2 | (with_reducible refine Kd.C_alloc ?_ _) | (with_reducible refine Kd.C_drewN ?_ _) | (with_reducible refine Kd.C_drew ?_))); (case side2 => exact (Kd.R_reads' HO179.out).2.1); rintro e w207 ⟨rfl, hb⟩; have n0_ := Aside0.mk (Kd.R_below (by (with_reducible repeat (first | apply Kd.R_alloc | apply Kd.R_drewN | apply Kd.R_drew)); exact HO_148001.out) hb); have n1_ := Aside0.mk (Kd.R_below (by (with_reducible repeat (first | apply Kd.R_alloc | apply Kd.R_drewN | apply Kd.R_drew)); exact HO_155001.out) hb); have n2_ := Aside0.mk (Kd.R_below (by (with_reducible repeat (first | apply Kd.R_alloc | apply Kd.R_drewN | apply Kd.R_drew)); exact HO_161001.out) hb); have n3_ := Aside0.mk (Kd.R_below (by (with_reducible repeat (first | apply Kd.R_alloc | apply Kd.R_drewN | apply Kd.R_drew)); exact HO179.out) hb); have n4_ := Aside0.mk (blk_below (g := gb147) (o := .cells #[.int .u32 t143, .slice Ao13 t144.length co13] 27 (0, 0)) (by (with_reducible repeat (first | refine blk_drewN ?_ _ | refine blk_drew ?_ | refine blk_alloc ?_ _)); exact BK147.out) hb); have n5_ := Aside0.mk (blk_below (g := gb154) (o := .cells #[.int .u32 t149, .slice Ao32 t150.length co32] 27 (0, 0)) (by (with_reducible repeat (first | refine blk_drewN ?_ _ | refine blk_drew ?_ | refine blk_alloc ?_ _)); exact BK154.out) hb); have n6_ := Aside0.mk (blk_below (g := gb160) (o := .cells #[.int .u32 t155, .slice Ao39 t156.length co39] 27 (0, 0)) (by (with_reducible repeat (first | refine blk_drewN ?_ _ | refine blk_drew ?_ | refine blk_alloc ?_ _)); exact BK160.out) hb); have n7_ := Aside0.mk (below_step (by repeat (first | (with_reducible first | exact HB.out | apply below_alloc | apply pw_below_drewN | apply below_drew1 | refine below_set ?_ GE147.out | refine below_set ?_ GE154.out | refine below_set ?_ GE160.out) | exact HB.out)) hb); clear HO_148001; clear HO_155001; clear HO_161001; clear HO179; clear BK147; clear BK154; clear BK160; clear HB; have HO_148001 := n0_; have HO_155001 := n1_; have HO_161001 := n2_; have HO179 := n3_; have BK147 := n4_; have BK154 := n5_; have BK160 := n6_; have HB := n7_; clear n0_ n1_ n2_ n3_ n4_ n5_ n6_ n7_; (try clear hb); (try clear hb2); (try clear hk); (try clear hi)))
                                go_ret
                                exact ⟨by first | rfl | (simp [errW_none, errW_some] <;> rfl) | (simp [*, errW_none, errW_some] <;> rfl), by repeat (first | (with_reducible first | exact HB.out | apply below_alloc | apply pw_below_drewN | apply below_drew1 | refine below_set ?_ GE147.out | refine below_set ?_ GE154.out | refine below_set ?_ GE160.out) | exact HB.out)⟩
                            · rw [if_neg c190] at H
                              have c190b0 : decide ((t144.length : Int) ≤ 64) = false := decide_eq_false c190
                              have c190b1 : decide (t144.length ≤ 64) = false := decide_eq_false (by omega)
                              clear c190
                              obtain rfl := Option.some.inj H
                              have hnb208 := NB147_154.out
                              have hnc208 := NB154_147.out
                              have hnb209 := NB147_160.out
                              have hnc209 := NB160_147.out
                              have hcz210_0 : wc.cell? ⟨gb147, 0, none⟩ = some (.int .u32 t143) := (blk_cell BK147.out 0).trans rfl
                              have hcz210_1 : wc.cell? ⟨gb147, 1, none⟩ = some (.slice Ao13 t144.length co13) := (blk_cell BK147.out 1).trans rfl
                              have hfz210_0 := blk_frozen BK147.out 0
                              have hfz210_1 := blk_frozen BK147.out 1
                              go_wp2_with (first | ((with_reducible refine gate_callee (f := 18) rfl ?_); refine goesL_ (some 122) rfl rfl Tryd.func18 (by kernel_rfl) rfl #[.agg #[.int .u32 t143, .slice Ao13 t144.length co13]] rfl (by (try simp only [List.map_toArray, List.map_cons, List.map_nil]); first | done | rfl | (simp only [List.length_drop, List.length_take]; rfl)) ?_; (with_reducible refine (calls_Calls_Many.calls t143 _ _ t144 t175 _ ?side1 ?side2 A185.out).mono ?_); (case side1 => repeat (first | exact (Kd.R_reads' HO_148001.out).2.2 | (with_reducible refine Kd.C_alloc ?_ _) | (with_reducible refine Kd.C_drewN ?_ _) | (with_reducible refine Kd.C_drew ?_))); (case side2 => exact (Kd.R_reads' HO_148001.out).2.1); rintro e w211 ⟨rfl, hb⟩; refine ⟨_, rfl, ?_⟩; have n0_ := Aside0.mk (Kd.R_below (by (with_reducible repeat (first | apply Kd.R_alloc | apply Kd.R_drewN | apply Kd.R_drew)); exact HO_148001.out) hb); have n1_ := Aside0.mk (Kd.R_below (by (with_reducible repeat (first | apply Kd.R_alloc | apply Kd.R_drewN | apply Kd.R_drew)); exact HO_155001.out) hb); have n2_ := Aside0.mk (Kd.R_below (by (with_reducible repeat (first | apply Kd.R_alloc | apply Kd.R_drewN | apply Kd.R_drew)); exact HO_161001.out) hb); have n3_ := Aside0.mk (blk_below (g := gb147) (o := .cells #[.int .u32 t143, .slice Ao13 t144.length co13] 27 (0, 0)) (by (with_reducible repeat (first | refine blk_drewN ?_ _ | refine blk_drew ?_ | refine blk_alloc ?_ _)); exact BK147.out) hb); have n4_ := Aside0.mk (blk_below (g := gb154) (o := .cells #[.int .u32 t149, .slice Ao32 t150.length co32] 27 (0, 0)) (by (with_reducible repeat (first | refine blk_drewN ?_ _ | refine blk_drew ?_ | refine blk_alloc ?_ _)); exact BK154.out) hb); have n5_ := Aside0.mk (blk_below (g := gb160) (o := .cells #[.int .u32 t155, .slice Ao39 t156.length co39] 27 (0, 0)) (by (with_reducible repeat (first | refine blk_drewN ?_ _ | refine blk_drew ?_ | refine blk_alloc ?_ _)); exact BK160.out) hb); have n6_ := Aside0.mk (below_step (by repeat (first | (with_reducible first | exact HB.out | apply below_alloc | apply pw_below_drewN | apply below_drew1 | refine below_set ?_ GE147.out | refine below_set ?_ GE154.out | refine below_set ?_ GE160.out) | exact HB.out)) hb); clear HO_148001; clear HO_155001; clear HO_161001; clear BK147; clear BK154; clear BK160; clear HB; have HO_148001 := n0_; have HO_155001 := n1_; have HO_161001 := n2_; have BK147 := n3_; have BK154 := n4_; have BK160 := n5_; have HB := n6_; clear n0_ n1_ n2_ n3_ n4_ n5_ n6_; (try clear hb); (try clear hb2); (try clear hk); (try clear hi); have hcz212_0 : w211.cell? ⟨gb147, 0, none⟩ = some (.int .u32 t143) := (blk_cell BK147.out 0).trans rfl; have hcz212_1 : w211.cell? ⟨gb147, 1, none⟩ = some (.slice Ao13 t144.length co13) := (blk_cell BK147.out 1).trans rfl; have hfz212_0 := blk_frozen BK147.out 0; have hfz212_1 := blk_frozen BK147.out 1) | (go_at_call 14; (with_reducible refine (calls_Calls_Done.calls t143 _ _ t144 a1 a2 true t176 t177 _ ?side1 ?side2 A187.out).mono ?_); (case side1 => repeat (first | exact (Kd.R_reads' HO_148001.out).2.2 | (with_reducible refine Kd.C_alloc ?_ _) | (with_reducible refine Kd.C_drewN ?_ _) | (with_reducible refine Kd.C_drew ?_))); (case side2 => exact (Kd.R_reads' HO_148001.out).2.1); rintro e w213 ⟨v178, rfl, ho0, hb⟩; have n0_ := Aside0.mk (Kd.R_elder' (by (with_reducible repeat (first | apply Kd.R_alloc | apply Kd.R_drewN | apply Kd.R_drew)); exact HO_148001.out) (Kd.R_base ho0) hb); have n1_ := Aside0.mk (Kd.R_elder' (by (with_reducible repeat (first | apply Kd.R_alloc | apply Kd.R_drewN | apply Kd.R_drew)); exact HO_155001.out) (Kd.R_base ho0) hb); have n2_ := Aside0.mk (Kd.R_elder' (by (with_reducible repeat (first | apply Kd.R_alloc | apply Kd.R_drewN | apply Kd.R_drew)); exact HO_161001.out) (Kd.R_base ho0) hb); have n3_ := Aside0.mk (Kd.R_lower (Kd.R_new' (Kd.R_new' (Kd.R_new' ho0 (Kd.R_lt (by (with_reducible repeat (first | apply Kd.R_alloc | apply Kd.R_drewN | apply Kd.R_drew)); exact HO_148001.out))) (Kd.R_lt (by (with_reducible repeat (first | apply Kd.R_alloc | apply Kd.R_drewN | apply Kd.R_drew)); exact HO_155001.out))) (Kd.R_lt (by (with_reducible repeat (first | apply Kd.R_alloc | apply Kd.R_drewN | apply Kd.R_drew)); exact HO_161001.out))) (below_size (by repeat (first | (with_reducible first | exact HB.out | apply below_alloc | apply pw_below_drewN | apply below_drew1 | refine below_set ?_ GE147.out | refine below_set ?_ GE154.out | refine below_set ?_ GE160.out) | exact HB.out)))); have n4_ := Aside0.mk (blk_below (g := gb147) (o := .cells #[.int .u32 t143, .slice Ao13 t144.length co13] 27 (0, 0)) (by (with_reducible repeat (first | refine blk_drewN ?_ _ | refine blk_drew ?_ | refine blk_alloc ?_ _)); exact BK147.out) hb); have n5_ := Aside0.mk (blk_below (g := gb154) (o := .cells #[.int .u32 t149, .slice Ao32 t150.length co32] 27 (0, 0)) (by (with_reducible repeat (first | refine blk_drewN ?_ _ | refine blk_drew ?_ | refine blk_alloc ?_ _)); exact BK154.out) hb); have n6_ := Aside0.mk (blk_below (g := gb160) (o := .cells #[.int .u32 t155, .slice Ao39 t156.length co39] 27 (0, 0)) (by (with_reducible repeat (first | refine blk_drewN ?_ _ | refine blk_drew ?_ | refine blk_alloc ?_ _)); exact BK160.out) hb); have n7_ := Aside0.mk (below_step (by repeat (first | (with_reducible first | exact HB.out | apply below_alloc | apply pw_below_drewN | apply below_drew1 | refine below_set ?_ GE147.out | refine below_set ?_ GE154.out | refine below_set ?_ GE160.out) | exact HB.out)) hb); clear HO_148001; clear HO_155001; clear HO_161001; clear BK147; clear BK154; clear BK160; clear HB; have HO_148001 := n0_; have HO_155001 := n1_; have HO_161001 := n2_; have HO179 := n3_; have BK147 := n4_; have BK154 := n5_; have BK160 := n6_; have HB := n7_; clear n0_ n1_ n2_ n3_ n4_ n5_ n6_ n7_; (try clear hb); (try clear hb2); (try clear hk); (try clear hi); (try clear ho0); obtain ⟨Ao214, co214, eo214⟩ := Kd.R_slice HO179.out; subst eo214) | (go_at_call 18; (with_reducible refine (calls_Calls_Many.calls t176 _ _ t177 t180 _ ?side1 ?side2 A188.out).mono ?_); (case side1 => repeat (first | exact (Kd.R_reads' HO179.out).2.2 | (with_reducible refine Kd.C_alloc ?_ _) | (with_reducible refine Kd.C_drewN ?_ _) | (with_reducible refine Kd.C_drew ?_))); (case side2 => exact (Kd.R_reads' HO179.out).2.1); rintro e w215 ⟨rfl, hb⟩; have n0_ := Aside0.mk (Kd.R_below (by (with_reducible repeat (first | apply Kd.R_alloc | apply Kd.R_drewN | apply Kd.R_drew)); exact HO_148001.out) hb); have n1_ := Aside0.mk (Kd.R_below (by (with_reducible repeat (first | apply Kd.R_alloc | apply Kd.R_drewN | apply Kd.R_drew)); exact HO_155001.out) hb); have n2_ := Aside0.mk (Kd.R_below (by (with_reducible repeat (first | apply Kd.R_alloc | apply Kd.R_drewN | apply Kd.R_drew)); exact HO_161001.out) hb); have n3_ := Aside0.mk (Kd.R_below (by (with_reducible repeat (first | apply Kd.R_alloc | apply Kd.R_drewN | apply Kd.R_drew)); exact HO179.out) hb); have n4_ := Aside0.mk (blk_below (g := gb147) (o := .cells #[.int .u32 t143, .slice Ao13 t144.length co13] 27 (0, 0)) (by (with_reducible repeat (first | refine blk_drewN ?_ _ | refine blk_drew ?_ | refine blk_alloc ?_ _)); exact BK147.out) hb); have n5_ := Aside0.mk (blk_below (g := gb154) (o := .cells #[.int .u32 t149, .slice Ao32 t150.length co32] 27 (0, 0)) (by (with_reducible repeat (first | refine blk_drewN ?_ _ | refine blk_drew ?_ | refine blk_alloc ?_ _)); exact BK154.out) hb); have n6_ := Aside0.mk (blk_below (g := gb160) (o := .cells #[.int .u32 t155, .slice Ao39 t156.length co39] 27 (0, 0)) (by (with_reducible repeat (first | refine blk_drewN ?_ _ | refine blk_drew ?_ | refine blk_alloc ?_ _)); exact BK160.out) hb); have n7_ := Aside0.mk (below_step (by repeat (first | (with_reducible first | exact HB.out | apply below_alloc | apply pw_below_drewN | apply below_drew1 | refine below_set ?_ GE147.out | refine below_set ?_ GE154.out | refine below_set ?_ GE160.out) | exact HB.out)) hb); clear HO_148001; clear HO_155001; clear HO_161001; clear HO179; clear BK147; clear BK154; clear BK160; clear HB; have HO_148001 := n0_; have HO_155001 := n1_; have HO_161001 := n2_; have HO179 := n3_; have BK147 := n4_; have BK154 := n5_; have BK160 := n6_; have HB := n7_; clear n0_ n1_ n2_ n3_ n4_ n5_ n6_ n7_; (try clear hb); (try clear hb2); (try clear hk); (try clear hi)))
                              go_ret
                              exact ⟨by first | rfl | (simp [errW_none, errW_some] <;> rfl) | (simp [*, errW_none, errW_some] <;> rfl), by repeat (first | (with_reducible first | exact HB.out | apply below_alloc | apply pw_below_drewN | apply below_drew1 | refine below_set ?_ GE147.out | refine below_set ?_ GE154.out | refine below_set ?_ GE160.out) | exact HB.out)⟩
                          · rw [if_neg c189] at H
                            have c189b0 : (t180 == 0) = false := beq_eq_false_iff_ne.mpr c189
                            have c189b1 : (t180 != 0) = true := bne_iff_ne.mpr c189
                            obtain rfl := Option.some.inj H
                            have hnb216 := NB147_154.out
                            have hnc216 := NB154_147.out
                            have hnb217 := NB147_160.out
                            have hnc217 := NB160_147.out
                            have hcz218_0 : wc.cell? ⟨gb147, 0, none⟩ = some (.int .u32 t143) := (blk_cell BK147.out 0).trans rfl
                            have hcz218_1 : wc.cell? ⟨gb147, 1, none⟩ = some (.slice Ao13 t144.length co13) := (blk_cell BK147.out 1).trans rfl
                            have hfz218_0 := blk_frozen BK147.out 0
                            have hfz218_1 := blk_frozen BK147.out 1
                            go_wp2_with (first | ((with_reducible refine gate_callee (f := 18) rfl ?_); refine goesL_ (some 122) rfl rfl Tryd.func18 (by kernel_rfl) rfl #[.agg #[.int .u32 t143, .slice Ao13 t144.length co13]] rfl (by (try simp only [List.map_toArray, List.map_cons, List.map_nil]); first | done | rfl | (simp only [List.length_drop, List.length_take]; rfl)) ?_; (with_reducible refine (calls_Calls_Many.calls t143 _ _ t144 t175 _ ?side1 ?side2 A185.out).mono ?_); (case side1 => repeat (first | exact (Kd.R_reads' HO_148001.out).2.2 | (with_reducible refine Kd.C_alloc ?_ _) | (with_reducible refine Kd.C_drewN ?_ _) | (with_reducible refine Kd.C_drew ?_))); (case side2 => exact (Kd.R_reads' HO_148001.out).2.1); rintro e w219 ⟨rfl, hb⟩; refine ⟨_, rfl, ?_⟩; have n0_ := Aside0.mk (Kd.R_below (by (with_reducible repeat (first | apply Kd.R_alloc | apply Kd.R_drewN | apply Kd.R_drew)); exact HO_148001.out) hb); have n1_ := Aside0.mk (Kd.R_below (by (with_reducible repeat (first | apply Kd.R_alloc | apply Kd.R_drewN | apply Kd.R_drew)); exact HO_155001.out) hb); have n2_ := Aside0.mk (Kd.R_below (by (with_reducible repeat (first | apply Kd.R_alloc | apply Kd.R_drewN | apply Kd.R_drew)); exact HO_161001.out) hb); have n3_ := Aside0.mk (blk_below (g := gb147) (o := .cells #[.int .u32 t143, .slice Ao13 t144.length co13] 27 (0, 0)) (by (with_reducible repeat (first | refine blk_drewN ?_ _ | refine blk_drew ?_ | refine blk_alloc ?_ _)); exact BK147.out) hb); have n4_ := Aside0.mk (blk_below (g := gb154) (o := .cells #[.int .u32 t149, .slice Ao32 t150.length co32] 27 (0, 0)) (by (with_reducible repeat (first | refine blk_drewN ?_ _ | refine blk_drew ?_ | refine blk_alloc ?_ _)); exact BK154.out) hb); have n5_ := Aside0.mk (blk_below (g := gb160) (o := .cells #[.int .u32 t155, .slice Ao39 t156.length co39] 27 (0, 0)) (by (with_reducible repeat (first | refine blk_drewN ?_ _ | refine blk_drew ?_ | refine blk_alloc ?_ _)); exact BK160.out) hb); have n6_ := Aside0.mk (below_step (by repeat (first | (with_reducible first | exact HB.out | apply below_alloc | apply pw_below_drewN | apply below_drew1 | refine below_set ?_ GE147.out | refine below_set ?_ GE154.out | refine below_set ?_ GE160.out) | exact HB.out)) hb); clear HO_148001; clear HO_155001; clear HO_161001; clear BK147; clear BK154; clear BK160; clear HB; have HO_148001 := n0_; have HO_155001 := n1_; have HO_161001 := n2_; have BK147 := n3_; have BK154 := n4_; have BK160 := n5_; have HB := n6_; clear n0_ n1_ n2_ n3_ n4_ n5_ n6_; (try clear hb); (try clear hb2); (try clear hk); (try clear hi); have hcz220_0 : w219.cell? ⟨gb147, 0, none⟩ = some (.int .u32 t143) := (blk_cell BK147.out 0).trans rfl; have hcz220_1 : w219.cell? ⟨gb147, 1, none⟩ = some (.slice Ao13 t144.length co13) := (blk_cell BK147.out 1).trans rfl; have hfz220_0 := blk_frozen BK147.out 0; have hfz220_1 := blk_frozen BK147.out 1) | (go_at_call 14; (with_reducible refine (calls_Calls_Done.calls t143 _ _ t144 a1 a2 true t176 t177 _ ?side1 ?side2 A187.out).mono ?_); (case side1 => repeat (first | exact (Kd.R_reads' HO_148001.out).2.2 | (with_reducible refine Kd.C_alloc ?_ _) | (with_reducible refine Kd.C_drewN ?_ _) | (with_reducible refine Kd.C_drew ?_))); (case side2 => exact (Kd.R_reads' HO_148001.out).2.1); rintro e w221 ⟨v178, rfl, ho0, hb⟩; have n0_ := Aside0.mk (Kd.R_elder' (by (with_reducible repeat (first | apply Kd.R_alloc | apply Kd.R_drewN | apply Kd.R_drew)); exact HO_148001.out) (Kd.R_base ho0) hb); have n1_ := Aside0.mk (Kd.R_elder' (by (with_reducible repeat (first | apply Kd.R_alloc | apply Kd.R_drewN | apply Kd.R_drew)); exact HO_155001.out) (Kd.R_base ho0) hb); have n2_ := Aside0.mk (Kd.R_elder' (by (with_reducible repeat (first | apply Kd.R_alloc | apply Kd.R_drewN | apply Kd.R_drew)); exact HO_161001.out) (Kd.R_base ho0) hb); have n3_ := Aside0.mk (Kd.R_lower (Kd.R_new' (Kd.R_new' (Kd.R_new' ho0 (Kd.R_lt (by (with_reducible repeat (first | apply Kd.R_alloc | apply Kd.R_drewN | apply Kd.R_drew)); exact HO_148001.out))) (Kd.R_lt (by (with_reducible repeat (first | apply Kd.R_alloc | apply Kd.R_drewN | apply Kd.R_drew)); exact HO_155001.out))) (Kd.R_lt (by (with_reducible repeat (first | apply Kd.R_alloc | apply Kd.R_drewN | apply Kd.R_drew)); exact HO_161001.out))) (below_size (by repeat (first | (with_reducible first | exact HB.out | apply below_alloc | apply pw_below_drewN | apply below_drew1 | refine below_set ?_ GE147.out | refine below_set ?_ GE154.out | refine below_set ?_ GE160.out) | exact HB.out)))); have n4_ := Aside0.mk (blk_below (g := gb147) (o := .cells #[.int .u32 t143, .slice Ao13 t144.length co13] 27 (0, 0)) (by (with_reducible repeat (first | refine blk_drewN ?_ _ | refine blk_drew ?_ | refine blk_alloc ?_ _)); exact BK147.out) hb); have n5_ := Aside0.mk (blk_below (g := gb154) (o := .cells #[.int .u32 t149, .slice Ao32 t150.length co32] 27 (0, 0)) (by (with_reducible repeat (first | refine blk_drewN ?_ _ | refine blk_drew ?_ | refine blk_alloc ?_ _)); exact BK154.out) hb); have n6_ := Aside0.mk (blk_below (g := gb160) (o := .cells #[.int .u32 t155, .slice Ao39 t156.length co39] 27 (0, 0)) (by (with_reducible repeat (first | refine blk_drewN ?_ _ | refine blk_drew ?_ | refine blk_alloc ?_ _)); exact BK160.out) hb); have n7_ := Aside0.mk (below_step (by repeat (first | (with_reducible first | exact HB.out | apply below_alloc | apply pw_below_drewN | apply below_drew1 | refine below_set ?_ GE147.out | refine below_set ?_ GE154.out | refine below_set ?_ GE160.out) | exact HB.out)) hb); clear HO_148001; clear HO_155001; clear HO_161001; clear BK147; clear BK154; clear BK160; clear HB; have HO_148001 := n0_; have HO_155001 := n1_; have HO_161001 := n2_; have HO179 := n3_; have BK147 := n4_; have BK154 := n5_; have BK160 := n6_; have HB := n7_; clear n0_ n1_ n2_ n3_ n4_ n5_ n6_ n7_; (try clear hb); (try clear hb2); (try clear hk); (try clear hi); (try clear ho0); obtain ⟨Ao222, co222, eo222⟩ := Kd.R_slice HO179.out; subst eo222) | (go_at_call 18; (with_reducible refine (calls_Calls_Many.calls t176 _ _ t177 t180 _ ?side1 ?side2 A188.out).mono ?_); (case side1 => repeat (first | exact (Kd.R_reads' HO179.out).2.2 | (with_reducible refine Kd.C_alloc ?_ _) | (with_reducible refine Kd.C_drewN ?_ _) | (with_reducible refine Kd.C_drew ?_))); (case side2 => exact (Kd.R_reads' HO179.out).2.1); rintro e w223 ⟨rfl, hb⟩; have n0_ := Aside0.mk (Kd.R_below (by (with_reducible repeat (first | apply Kd.R_alloc | apply Kd.R_drewN | apply Kd.R_drew)); exact HO_148001.out) hb); have n1_ := Aside0.mk (Kd.R_below (by (with_reducible repeat (first | apply Kd.R_alloc | apply Kd.R_drewN | apply Kd.R_drew)); exact HO_155001.out) hb); have n2_ := Aside0.mk (Kd.R_below (by (with_reducible repeat (first | apply Kd.R_alloc | apply Kd.R_drewN | apply Kd.R_drew)); exact HO_161001.out) hb); have n3_ := Aside0.mk (Kd.R_below (by (with_reducible repeat (first | apply Kd.R_alloc | apply Kd.R_drewN | apply Kd.R_drew)); exact HO179.out) hb); have n4_ := Aside0.mk (blk_below (g := gb147) (o := .cells #[.int .u32 t143, .slice Ao13 t144.length co13] 27 (0, 0)) (by (with_reducible repeat (first | refine blk_drewN ?_ _ | refine blk_drew ?_ | refine blk_alloc ?_ _)); exact BK147.out) hb); have n5_ := Aside0.mk (blk_below (g := gb154) (o := .cells #[.int .u32 t149, .slice Ao32 t150.length co32] 27 (0, 0)) (by (with_reducible repeat (first | refine blk_drewN ?_ _ | refine blk_drew ?_ | refine blk_alloc ?_ _)); exact BK154.out) hb); have n6_ := Aside0.mk (blk_below (g := gb160) (o := .cells #[.int .u32 t155, .slice Ao39 t156.length co39] 27 (0, 0)) (by (with_reducible repeat (first | refine blk_drewN ?_ _ | refine blk_drew ?_ | refine blk_alloc ?_ _)); exact BK160.out) hb); have n7_ := Aside0.mk (below_step (by repeat (first | (with_reducible first | exact HB.out | apply below_alloc | apply pw_below_drewN | apply below_drew1 | refine below_set ?_ GE147.out | refine below_set ?_ GE154.out | refine below_set ?_ GE160.out) | exact HB.out)) hb); clear HO_148001; clear HO_155001; clear HO_161001; clear HO179; clear BK147; clear BK154; clear BK160; clear HB; have HO_148001 := n0_; have HO_155001 := n1_; have HO_161001 := n2_; have HO179 := n3_; have BK147 := n4_; have BK154 := n5_; have BK160 := n6_; have HB := n7_; clear n0_ n1_ n2_ n3_ n4_ n5_ n6_ n7_; (try clear hb); (try clear hb2); (try clear hk); (try clear hi)))
                            go_ret
                            exact ⟨by first | rfl | (simp [errW_none, errW_some] <;> rfl) | (simp [*, errW_none, errW_some] <;> rfl), by repeat (first | (with_reducible first | exact HB.out | apply below_alloc | apply pw_below_drewN | apply below_drew1 | refine below_set ?_ GE147.out | refine below_set ?_ GE154.out | refine below_set ?_ GE160.out) | exact HB.out)⟩
                        · rw [if_neg c186] at H
                          have c186b0 : (t175 == 0) = false := beq_eq_false_iff_ne.mpr c186
                          have c186b1 : (t175 != 0) = true := bne_iff_ne.mpr c186
                          obtain rfl := Option.some.inj H
                          have hnb224 := NB147_154.out
                          have hnc224 := NB154_147.out
                          have hnb225 := NB147_160.out
                          have hnc225 := NB160_147.out
                          have hcz226_0 : wc.cell? ⟨gb147, 0, none⟩ = some (.int .u32 t143) := (blk_cell BK147.out 0).trans rfl
                          have hcz226_1 : wc.cell? ⟨gb147, 1, none⟩ = some (.slice Ao13 t144.length co13) := (blk_cell BK147.out 1).trans rfl
                          have hfz226_0 := blk_frozen BK147.out 0
                          have hfz226_1 := blk_frozen BK147.out 1
                          go_wp2_with (first | ((with_reducible refine gate_callee (f := 18) rfl ?_); refine goesL_ (some 122) rfl rfl Tryd.func18 (by kernel_rfl) rfl #[.agg #[.int .u32 t143, .slice Ao13 t144.length co13]] rfl (by (try simp only [List.map_toArray, List.map_cons, List.map_nil]); first | done | rfl | (simp only [List.length_drop, List.length_take]; rfl)) ?_; (with_reducible refine (calls_Calls_Many.calls t143 _ _ t144 t175 _ ?side1 ?side2 A185.out).mono ?_); (case side1 => repeat (first | exact (Kd.R_reads' HO_148001.out).2.2 | (with_reducible refine Kd.C_alloc ?_ _) | (with_reducible refine Kd.C_drewN ?_ _) | (with_reducible refine Kd.C_drew ?_))); (case side2 => exact (Kd.R_reads' HO_148001.out).2.1); rintro e w227 ⟨rfl, hb⟩; refine ⟨_, rfl, ?_⟩; have n0_ := Aside0.mk (Kd.R_below (by (with_reducible repeat (first | apply Kd.R_alloc | apply Kd.R_drewN | apply Kd.R_drew)); exact HO_148001.out) hb); have n1_ := Aside0.mk (Kd.R_below (by (with_reducible repeat (first | apply Kd.R_alloc | apply Kd.R_drewN | apply Kd.R_drew)); exact HO_155001.out) hb); have n2_ := Aside0.mk (Kd.R_below (by (with_reducible repeat (first | apply Kd.R_alloc | apply Kd.R_drewN | apply Kd.R_drew)); exact HO_161001.out) hb); have n3_ := Aside0.mk (blk_below (g := gb147) (o := .cells #[.int .u32 t143, .slice Ao13 t144.length co13] 27 (0, 0)) (by (with_reducible repeat (first | refine blk_drewN ?_ _ | refine blk_drew ?_ | refine blk_alloc ?_ _)); exact BK147.out) hb); have n4_ := Aside0.mk (blk_below (g := gb154) (o := .cells #[.int .u32 t149, .slice Ao32 t150.length co32] 27 (0, 0)) (by (with_reducible repeat (first | refine blk_drewN ?_ _ | refine blk_drew ?_ | refine blk_alloc ?_ _)); exact BK154.out) hb); have n5_ := Aside0.mk (blk_below (g := gb160) (o := .cells #[.int .u32 t155, .slice Ao39 t156.length co39] 27 (0, 0)) (by (with_reducible repeat (first | refine blk_drewN ?_ _ | refine blk_drew ?_ | refine blk_alloc ?_ _)); exact BK160.out) hb); have n6_ := Aside0.mk (below_step (by repeat (first | (with_reducible first | exact HB.out | apply below_alloc | apply pw_below_drewN | apply below_drew1 | refine below_set ?_ GE147.out | refine below_set ?_ GE154.out | refine below_set ?_ GE160.out) | exact HB.out)) hb); clear HO_148001; clear HO_155001; clear HO_161001; clear BK147; clear BK154; clear BK160; clear HB; have HO_148001 := n0_; have HO_155001 := n1_; have HO_161001 := n2_; have BK147 := n3_; have BK154 := n4_; have BK160 := n5_; have HB := n6_; clear n0_ n1_ n2_ n3_ n4_ n5_ n6_; (try clear hb); (try clear hb2); (try clear hk); (try clear hi)))
                          go_ret
                          exact ⟨by first | rfl | (simp [errW_none, errW_some] <;> rfl) | (simp [*, errW_none, errW_some] <;> rfl), by repeat (first | (with_reducible first | exact HB.out | apply below_alloc | apply pw_below_drewN | apply below_drew1 | refine below_set ?_ GE147.out | refine below_set ?_ GE154.out | refine below_set ?_ GE160.out) | exact HB.out)⟩
  · replace c7 := Bool.eq_false_iff.mpr c7
    subst c7
    have H1 : (some false) = some r := by rw [if_neg (show ¬ (false = true) by decide)] at H; exact H
    clear H
    have H := H1
    clear H1
    obtain rfl := Option.some.inj H
    go_enter Tryd.func7, Tryd.ntmps7
    go_wp2_with (first | ((with_reducible refine gate_callee (f := 8) rfl ?_); refine goesL_ (some 22) rfl rfl Tryd.func8 (by kernel_rfl) rfl #[] rfl (by (try simp only [List.map_toArray, List.map_cons, List.map_nil]); first | done | rfl | (simp only [List.length_drop, List.length_take]; rfl)) ?_; (with_reducible refine (paternosterlaw22_awake.calls  false _ A6.out (PAll.Deb.keep HLAID.out (by repeat (first | (with_reducible first | exact HB.out | apply below_alloc | apply pw_below_drewN | apply below_drew1 | refine below_set ?_ (Aside0.out (by assumption))) | exact HB.out | refine below_set ?_ (Aside0.out (by assumption)))))).mono ?_); rintro e w228 ⟨rfl, hb⟩; refine ⟨_, rfl, ?_⟩; have n0_ := Aside0.mk (below_step (by repeat (first | (with_reducible first | exact HB.out | apply below_alloc | apply pw_below_drewN | apply below_drew1) | exact HB.out)) hb); clear HB; have HB := n0_; clear n0_; (try clear hb); (try clear hb2); (try clear hk); (try clear hi)))
    go_ret
    exact ⟨by first | rfl | (simp [errW_none, errW_some] <;> rfl) | (simp [*, errW_none, errW_some] <;> rfl), by repeat (first | (with_reducible first | exact HB.out | apply below_alloc | apply pw_below_drewN | apply below_drew1) | exact HB.out)⟩

/-- THE ONE PURE STATEMENT of paternosterlaw22_CallsNone: yours. -/
def paternosterlaw22_CallsNone.Pure : Prop := ∀ (a0 : Int) (a1 : Int) (a2 : Int) (a3 : Int) (a4 : Int), (Lit.int .i64 a0).wf = true → (Lit.int .i64 a1).wf = true → (Lit.int .i64 a2).wf = true → (Lit.int .i64 a3).wf = true → (Lit.int .u8 a4).wf = true → ∃ k, paternosterlaw22_CallsNone.f k a0 a1 a2 a3 a4 = some true
theorem paternosterlaw22_CallsNone.walk : True := trivial

end Go.Proofs.YthjmlmognbenoaaDoor.PTwo
