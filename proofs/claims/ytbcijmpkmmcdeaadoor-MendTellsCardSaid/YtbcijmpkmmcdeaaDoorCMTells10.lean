/- Texts of mine, put together (no statement stands here). -/
import Derived.Test.YtbcijmpkmmcdeaaDoorCMTells9
import Derived.Test.YtbcijmpkmmcdeaaDoorCMTells6
import Derived.Test.YtbcijmpkmmcdeaaDoorCMTells7
section
namespace Go.Proofs.YtbcijmpkmmcdeaaDoor.PAll
open Go.RowKit Go.Proofs.YtbcijmpkmmcdeaaDoorW.PrintWords Go.Proofs.YtbcijmpkmmcdeaaDoorW.PrintLast Go.Proofs.YtbcijmpkmmcdeaaDoorW.PrintMore
attribute [local go_sem] max2_int min2_int max_two min_two max_three min_three max_four min_four
set_option linter.unusedVariables false
set_option linter.unusedSimpArgs false
def crc_Seal.f (k : Nat) (l0 : List Int) : Option (List Int) := (slices_Clone_byte_byte.f l0).bind fun t134 => ((crc_Of.f (([l0] : List (List Int)))).bind fun t140 => ((octet_Put.f k 4 (([IntKind.u64.wrap (t140)] : List Int))).bind fun t144 => (if t134.length + t144.length < 140737488355328 then (some (t134 ++ t144)) else (none))))
set_option maxHeartbeats 8000000 in
set_option maxRecDepth 100000 in
theorem crc_Seal.calls (k : Nat) (P0_ : Nat → Prop) (A0 : Option Addr) (c0 : Nat) (l0 : List Int) (r : List Int) (w : World) (hs0 : Kd.V (Kd.int .u8) 5 w w.heap.size (fun k_ => P0_ k_) (.slice A0 l0.length c0) l0) (h : crc_Seal.f k l0 = some r) (hl_ : Half w) :
    Calls Tryd.prog 52 #[.slice A0 l0.length c0] w fun e w' => ∃ v0_ : Value, e = .returned (v0_) ∧ Kd.R (Kd.int .u8) 5 w' w.heap.size (fun k_ => (w.heap.size ≤ k_)) v0_ r ∧ Below w.heap.size w w' := by
  have HLAID := Aside0.mk hl_
  clear hl_
  have HO0 := Aside0.mk (show Kd.V (Kd.int .u8) 5 w w.heap.size (fun k_ => (P0_ k_ ∨ w.heap.size ≤ k_)) (.slice A0 l0.length c0) l0 from Kd.V_mono hs0 (fun k_ hk => .inl hk))
  have HB := Aside0.mk (Below.refl w.heap.size w)
  have H : ((slices_Clone_byte_byte.f l0).bind fun t134 => ((crc_Of.f (([l0] : List (List Int)))).bind fun t140 => ((octet_Put.f k 4 (([IntKind.u64.wrap (t140)] : List Int))).bind fun t144 => (if t134.length + t144.length < 140737488355328 then (some (t134 ++ t144)) else (none))))) = some r := h
  clear h
  replace H := Option.bind_eq_some_iff.mp H
  obtain ⟨t134, A20, H⟩ := H
  replace H : ((crc_Of.f (([l0] : List (List Int)))).bind fun t140 => ((octet_Put.f k 4 (([IntKind.u64.wrap (t140)] : List Int))).bind fun t144 => (if t134.length + t144.length < 140737488355328 then (some (t134 ++ t144)) else (none)))) = some r := H
  have A2 := Aside0.mk A20
  clear A20
  obtain ⟨y137, hy137⟩ : ∃ y_ : List (List Int), y_ = (([l0] : List (List Int))) := ⟨_, rfl⟩
  replace H : ((crc_Of.f y137).bind fun t140 => ((octet_Put.f k 4 (([IntKind.u64.wrap (t140)] : List Int))).bind fun t144 => (if t134.length + t144.length < 140737488355328 then (some (t134 ++ t144)) else (none)))) = some r := by first | (rw [hy137]; with_reducible exact H) | (have H2_ := (Option.bind_some _ _).symm.trans H; rw [hy137]; with_reducible exact H2_) | (have H2_ := (Option.bind_some _ _).symm.trans H; with_reducible exact H2_) | with_reducible exact H | (rw [hy137]; exact H) | exact H
  have Ny137 := Aside0.mk hy137
  clear hy137
  replace H := Option.bind_eq_some_iff.mp H
  obtain ⟨t140, A30, H⟩ := H
  replace H : ((octet_Put.f k 4 (([IntKind.u64.wrap (t140)] : List Int))).bind fun t144 => (if t134.length + t144.length < 140737488355328 then (some (t134 ++ t144)) else (none))) = some r := H
  have A3 := Aside0.mk A30
  clear A30
  obtain ⟨y141, hy141⟩ : ∃ y_ : List Int, y_ = (([IntKind.u64.wrap (t140)] : List Int)) := ⟨_, rfl⟩
  replace H : ((octet_Put.f k 4 y141).bind fun t144 => (if t134.length + t144.length < 140737488355328 then (some (t134 ++ t144)) else (none))) = some r := by first | (rw [hy141]; with_reducible exact H) | (have H2_ := (Option.bind_some _ _).symm.trans H; rw [hy141]; with_reducible exact H2_) | (have H2_ := (Option.bind_some _ _).symm.trans H; with_reducible exact H2_) | with_reducible exact H | (rw [hy141]; exact H) | exact H
  have Ny141 := Aside0.mk hy141
  clear hy141
  replace H := Option.bind_eq_some_iff.mp H
  obtain ⟨t144, A40, H⟩ := H
  replace H : (if t134.length + t144.length < 140737488355328 then (some (t134 ++ t144)) else (none)) = some r := H
  have A4 := Aside0.mk A40
  clear A40
  by_cases c5 : t134.length + t144.length < 140737488355328
  · rw [if_pos c5] at H
    have LMc5 := Aside0.mk c5
    clear c5
    obtain ⟨y147, hy147⟩ : ∃ y_ : List Int, y_ = (t134 ++ t144) := ⟨_, rfl⟩
    replace H : (some y147) = some r := by first | (rw [hy147]; with_reducible exact H) | (have H2_ := (Option.bind_some _ _).symm.trans H; rw [hy147]; with_reducible exact H2_) | (have H2_ := (Option.bind_some _ _).symm.trans H; with_reducible exact H2_) | with_reducible exact H | (rw [hy147]; exact H) | exact H
    have Ny147 := Aside0.mk hy147
    clear hy147
    obtain rfl := Option.some.inj H
    go_enter Tryd.func52, Tryd.ntmps52
    go_wp2_with (first | ((with_reducible refine gate_callee (f := 39) rfl ?_); refine goesL_ (some 4) rfl rfl Tryd.func39 (by kernel_rfl) rfl #[.slice A0 l0.length c0] rfl (by (try simp only [List.map_toArray, List.map_cons, List.map_nil]); first | done | rfl | (simp only [List.length_drop, List.length_take]; rfl)) ?_; (with_reducible refine (slices_Clone_byte_byte.calls _ _ l0 t134 _ ?side1 ?side2 A2.out).mono ?_); (case side1 => repeat (first | exact (Kd.V_reads' HO0.out).2.2 | (with_reducible refine Kd.C_alloc ?_ _) | (with_reducible refine Kd.C_drewN ?_ _) | (with_reducible refine Kd.C_drew ?_))); (case side2 => exact (Kd.V_reads' HO0.out).2.1); rintro e w6 ⟨v135, rfl, ho0, hb⟩; refine ⟨_, rfl, ?_⟩; have n0_ := Aside0.mk (Kd.V_elder' (by (with_reducible repeat (first | apply Kd.V_alloc | apply Kd.V_drewN | apply Kd.V_drew)); exact HO0.out) (Kd.R_base ho0) hb); have n1_ := Aside0.mk (Kd.R_lower (Kd.R_newM (M := fun k_ => (w.heap.size ≤ k_)) ho0 (below_size (by repeat (first | (with_reducible first | exact HB.out | apply below_alloc | apply pw_below_drewN | apply below_drew1) | exact HB.out))) (fun k_ h_ => h_)) (below_size (by repeat (first | (with_reducible first | exact HB.out | apply below_alloc | apply pw_below_drewN | apply below_drew1) | exact HB.out)))); have n2_ := Aside0.mk (below_step (by repeat (first | (with_reducible first | exact HB.out | apply below_alloc | apply pw_below_drewN | apply below_drew1) | exact HB.out)) hb); clear HO0; clear HB; have HO0 := n0_; have HO136 := n1_; have HB := n2_; clear n0_ n1_ n2_; (try clear hb); (try clear hb2); (try clear hk); (try clear hi); (try clear ho0)) | ((with_reducible refine gate_dst (N := 6) rfl ?_); refine Kd.N_lit (Kd.slice 5 (Kd.int .u8)) _ 22 ?hg (N' := 6) ?hd (xs := ([l0] : List (List Int))) (inner := [.slice A0 l0.length c0]) (ok := (fun k_ => (P0_ k_ ∨ w.heap.size ≤ k_) ∧ some k_ ≠ (v135 : Value).ownBlock)) (okp := (fun k_ => (P0_ k_ ∨ w.heap.size ≤ k_) ∧ some k_ ≠ (v135 : Value).ownBlock)) ?hr ?hp (fun _ hk => hk) ((show ∀ k_, w6.heap.size ≤ k_ → (fun k_ => (P0_ k_ ∨ w.heap.size ≤ k_) ∧ some k_ ≠ (v135 : Value).ownBlock) k_ from fun k_ hk => ⟨(.inr (Nat.le_trans (below_size (by repeat (first | (with_reducible first | exact HB.out | apply below_alloc | apply pw_below_drewN | apply below_drew1) | exact HB.out))) hk)), Kd.fresh' (Kd.R_lt (by (with_reducible repeat (first | apply Kd.R_alloc | apply Kd.R_drewN | apply Kd.R_drew)); exact HO136.out)) k_ hk⟩) _ (Nat.le_refl _)) (Below.refl _ _) (Nat.le_refl _) (by simp) ?_; (case hd => rfl); (case hg => rfl); (case hr => first | (go_simp; done) | (go_simp; rfl)); (case hp => exact (Reps.one (show Kd.FK (Kd.slice 5 (Kd.int .u8)) _ _ l0 [.slice A0 l0.length c0] from (Kd.FK_slice_mk (Kd.V_reads' (Kd.V_mono (ok' := (fun k_ => (P0_ k_ ∨ w.heap.size ≤ k_) ∧ some k_ ≠ (v135 : Value).ownBlock)) (HO0.out) (fun k_ hk => ⟨hk.1, hk.2⟩))).2.1 (Kd.V_F (Kd.V_mono (ok' := (fun k_ => (P0_ k_ ∨ w.heap.size ≤ k_) ∧ some k_ ≠ (v135 : Value).ownBlock)) (HO0.out) (fun k_ hk => ⟨hk.1, hk.2⟩))))) (Reps.none _ _))); intro v138 w7 ho8 hb hg_ hnew_; clear hg_ hnew_; (first | rw [← Ny137.out] at ho8 | (simp only [Int.reduceToNat] at ho8; rw [← Ny137.out] at ho8)); have n0_ := Aside0.mk (Kd.V_elder' (by (with_reducible repeat (first | apply Kd.V_alloc | apply Kd.V_drewN | apply Kd.V_drew)); exact HO0.out) (Kd.N_base ho8) hb); have n1_ := Aside0.mk (Kd.R_below (by (with_reducible repeat (first | apply Kd.R_alloc | apply Kd.R_drewN | apply Kd.R_drew)); exact HO136.out) hb); have n2_ := Aside0.mk (Kd.N_lower ho8 (below_size (by repeat (first | (with_reducible first | exact HB.out | apply below_alloc | apply pw_below_drewN | apply below_drew1) | exact HB.out)))); have n3_ := Aside0.mk (below_step (by repeat (first | (with_reducible first | exact HB.out | apply below_alloc | apply pw_below_drewN | apply below_drew1) | exact HB.out)) hb); clear HO0; clear HO136; clear HB; have HO0 := n0_; have HO136 := n1_; have HO139 := n2_; have HB := n3_; clear n0_ n1_ n2_ n3_; clear hb ho8; obtain ⟨Ao9, co9, eo9⟩ := Kd.N_slice HO139.out; subst eo9) | ((with_reducible refine gate_callee (f := 70) rfl ?_); refine goesL_ (some 7) rfl rfl Tryd.func70 (by kernel_rfl) rfl #[.slice Ao9 y137.length co9] rfl (by (try simp only [List.map_toArray, List.map_cons, List.map_nil]); first | done | rfl | (simp only [List.length_drop, List.length_take]; rfl)) ?_; (with_reducible refine (crc_Of.calls _ _ y137 t140 _ ?side1 ?side2 A3.out (Half.keep HLAID.out (by repeat (first | (with_reducible first | exact HB.out | apply below_alloc | apply pw_below_drewN | apply below_drew1 | refine below_set ?_ (Aside0.out (by assumption))) | exact HB.out | refine below_set ?_ (Aside0.out (by assumption)))))).mono ?_); (case side1 => repeat (first | exact (Kd.N_reads' HO139.out).2.2 | (with_reducible refine Kd.C_alloc ?_ _) | (with_reducible refine Kd.C_drewN ?_ _) | (with_reducible refine Kd.C_drew ?_))); (case side2 => exact (Kd.N_reads' HO139.out).2.1); rintro e w' ⟨rfl, ⟨nd, rfl⟩⟩; refine ⟨_, rfl, ?_⟩) | ((with_reducible refine gate_dst (N := 9) rfl ?_); refine Kd.R_lit (Kd.int .u64) _ 53 ?hg (N := 9) ?hd (xs := ([IntKind.u64.wrap (t140)] : List Int)) (inner := [.int .u64 (IntKind.u64.wrap (t140))]) (ok := fun _ => True) (okp := fun _ => True) ?hr ?hp (fun _ hk => hk) trivial (Below.refl _ _) (Nat.le_refl _) (by simp) ?_; (case hd => rfl); (case hg => rfl); (case hr => first | (go_simp; done) | (go_simp; rfl)); (case hp => exact (Reps.one (show Kd.M (Kd.int .u64) _ _ _ (IntKind.u64.wrap (t140)) [.int .u64 (IntKind.u64.wrap (t140))] from rfl) (Reps.none _ _))); intro v142 w10 ho11 hb hg_ hnew_; clear hg_ hnew_; (first | rw [← Ny141.out] at ho11 | (simp only [Int.reduceToNat] at ho11; rw [← Ny141.out] at ho11)); have n0_ := Aside0.mk (Kd.V_elder' (by (with_reducible repeat (first | apply Kd.V_alloc | apply Kd.V_drewN | apply Kd.V_drew)); exact HO0.out) (Kd.R_base ho11) hb); have n1_ := Aside0.mk (Kd.R_below (by (with_reducible repeat (first | apply Kd.R_alloc | apply Kd.R_drewN | apply Kd.R_drew)); exact HO136.out) hb); have n2_ := Aside0.mk (Kd.N_elder' (by (with_reducible repeat (first | apply Kd.N_alloc | apply Kd.N_drewN | apply Kd.N_drew)); exact HO139.out) (Kd.R_base ho11) hb); have n3_ := Aside0.mk (Kd.R_lower (Kd.R_newM (M := fun k_ => (w.heap.size ≤ k_)) ho11 (below_size (by repeat (first | (with_reducible first | exact HB.out | apply below_alloc | apply pw_below_drewN | apply below_drew1) | exact HB.out))) (fun k_ h_ => h_)) (below_size (by repeat (first | (with_reducible first | exact HB.out | apply below_alloc | apply pw_below_drewN | apply below_drew1) | exact HB.out)))); have n4_ := Aside0.mk (below_step (by repeat (first | (with_reducible first | exact HB.out | apply below_alloc | apply pw_below_drewN | apply below_drew1) | exact HB.out)) hb); clear HO0; clear HO136; clear HO139; clear HB; have HO0 := n0_; have HO136 := n1_; have HO139 := n2_; have HO143 := n3_; have HB := n4_; clear n0_ n1_ n2_ n3_ n4_; clear hb ho11; obtain ⟨Ao12, co12, eo12⟩ := Kd.R_slice HO143.out; subst eo12) | ((with_reducible refine gate_callee (f := 51) rfl ?_); refine goesL_ (some 10) rfl rfl Tryd.func51 (by kernel_rfl) rfl #[.int .i64 4, .slice Ao12 y141.length co12] rfl (by (try simp only [List.map_toArray, List.map_cons, List.map_nil]); first | done | rfl | (simp only [List.length_drop, List.length_take]; rfl)) ?_; (with_reducible refine (octet_Put.calls k 4 _ _ y141 t144 _ ?side1 ?side2 A4.out).mono ?_); (case side1 => repeat (first | exact (Kd.R_reads' HO143.out).2.2 | (with_reducible refine Kd.C_alloc ?_ _) | (with_reducible refine Kd.C_drewN ?_ _) | (with_reducible refine Kd.C_drew ?_))); (case side2 => exact (Kd.R_reads' HO143.out).2.1); rintro e w13 ⟨v145, rfl, ho0, hb⟩; refine ⟨_, rfl, ?_⟩; have n0_ := Aside0.mk (Kd.V_elder' (by (with_reducible repeat (first | apply Kd.V_alloc | apply Kd.V_drewN | apply Kd.V_drew)); exact HO0.out) (Kd.R_base ho0) hb); have n1_ := Aside0.mk (Kd.R_elder' (by (with_reducible repeat (first | apply Kd.R_alloc | apply Kd.R_drewN | apply Kd.R_drew)); exact HO136.out) (Kd.R_base ho0) hb); have n2_ := Aside0.mk (Kd.N_elder' (by (with_reducible repeat (first | apply Kd.N_alloc | apply Kd.N_drewN | apply Kd.N_drew)); exact HO139.out) (Kd.R_base ho0) hb); have n3_ := Aside0.mk (Kd.R_below (by (with_reducible repeat (first | apply Kd.R_alloc | apply Kd.R_drewN | apply Kd.R_drew)); exact HO143.out) hb); have n4_ := Aside0.mk (Kd.R_lower (Kd.R_new' (Kd.R_newM (M := fun k_ => (w.heap.size ≤ k_)) ho0 (below_size (by repeat (first | (with_reducible first | exact HB.out | apply below_alloc | apply pw_below_drewN | apply below_drew1) | exact HB.out))) (fun k_ h_ => h_)) (Kd.R_lt (by (with_reducible repeat (first | apply Kd.R_alloc | apply Kd.R_drewN | apply Kd.R_drew)); exact HO136.out))) (below_size (by repeat (first | (with_reducible first | exact HB.out | apply below_alloc | apply pw_below_drewN | apply below_drew1) | exact HB.out)))); have n5_ := Aside0.mk (below_step (by repeat (first | (with_reducible first | exact HB.out | apply below_alloc | apply pw_below_drewN | apply below_drew1) | exact HB.out)) hb); clear HO0; clear HO136; clear HO139; clear HO143; clear HB; have HO0 := n0_; have HO136 := n1_; have HO139 := n2_; have HO143 := n3_; have HO146 := n4_; have HB := n5_; clear n0_ n1_ n2_ n3_ n4_ n5_; (try clear hb); (try clear hb2); (try clear hk); (try clear hi); (try clear ho0); obtain ⟨Ao15, co15, eo15⟩ := Kd.R_slice HO146.out; subst eo15) | ((with_reducible refine gate_builtin (b := .append) (xs := #[.tmp 4, .tmp 10]) rfl ?_); at_builtin; refine Kd.R_append_rows (Kd.int .u8) (w0 := w) w.heap.size rfl (.tmp 4) (.tmp 10) 22 5 (.int .u8 0) 1 rfl Tryd.underlying22 info5 rfl (by decide) (by omega) v135 t134 t144 _ _ _ (fun k_ => (w.heap.size ≤ k_) ∧ some k_ ≠ (.slice Ao15 t144.length co15 : Value).ownBlock) (fun _ => False) rfl rfl ?aO ?aR (fun _ _ h => h) (fun _ h => h.elim) ?aF ?aB ?aS ?aL ?_; (case aR => repeat (first | exact (Kd.R_reads' HO146.out).2.2 | (with_reducible refine Kd.C_alloc ?_ _) | (with_reducible refine Kd.C_drewN ?_ _) | (with_reducible refine Kd.C_drew ?_))); (case aB => exact (by repeat (first | (with_reducible first | exact HB.out | apply below_alloc | apply pw_below_drewN | apply below_drew1) | exact HB.out))); (case aF => exact (fun k_ hk => ⟨(Nat.le_trans (below_size (by repeat (first | (with_reducible first | exact HB.out | apply below_alloc | apply pw_below_drewN | apply below_drew1) | exact HB.out))) hk), Kd.fresh' (Kd.R_lt (by (with_reducible repeat (first | apply Kd.R_alloc | apply Kd.R_drewN | apply Kd.R_drew)); exact HO146.out)) k_ hk⟩)); (case aO => exact (by (with_reducible repeat (first | apply Kd.R_alloc | apply Kd.R_drewN | apply Kd.R_drew)); exact Kd.R_mono HO136.out (fun _ hk => ⟨hk.1.1, hk.2⟩))); (case aS => exact (below_size (by repeat (first | (with_reducible first | exact HB.out | apply below_alloc | apply pw_below_drewN | apply below_drew1) | exact HB.out)))); (case aL => have := LMc5.out; omega); intro v148 w14 ho hb hg hat; rw [← Ny147.out] at ho; have n0_ := Aside0.mk (Kd.V_afterv (ok := (fun k_ => (P0_ k_ ∨ w.heap.size ≤ k_) ∧ some k_ ≠ (.slice Ao9 y137.length co9 : Value).ownBlock ∧ some k_ ≠ (.slice Ao12 y141.length co12 : Value).ownBlock ∧ some k_ ≠ (.slice Ao15 t144.length co15 : Value).ownBlock)) (by (with_reducible repeat (first | apply Kd.V_alloc | apply Kd.V_drewN | apply Kd.V_drew)); exact Kd.V_mono HO0.out (fun _ hk => ⟨⟨hk.1.1.1.1, ⟨hk.1.1.2, ⟨hk.1.2, hk.2⟩⟩⟩, hk.1.1.1.2⟩)) hg hat); have n1_ := Aside0.mk (Kd.N_afterv (ok := (fun k_ => (P0_ k_ ∨ w.heap.size ≤ k_) ∧ some k_ ≠ (.slice Ao12 y141.length co12 : Value).ownBlock ∧ some k_ ≠ (.slice Ao15 t144.length co15 : Value).ownBlock)) (by (with_reducible repeat (first | apply Kd.N_alloc | apply Kd.N_drewN | apply Kd.N_drew)); exact Kd.N_mono HO139.out (fun _ hk => ⟨⟨hk.1.1.1, ⟨hk.1.2, hk.2⟩⟩, hk.1.1.2⟩)) hg hat); have n2_ := Aside0.mk (Kd.R_over' (by (with_reducible repeat (first | apply Kd.R_alloc | apply Kd.R_drewN | apply Kd.R_drew)); exact HO143.out) (Kd.R_typed (by (with_reducible repeat (first | apply Kd.R_alloc | apply Kd.R_drewN | apply Kd.R_drew)); exact HO136.out)) (by decide) hg); have n3_ := Aside0.mk (Kd.R_after (ok := (fun k_ => (w.heap.size ≤ k_))) (by (with_reducible repeat (first | apply Kd.R_alloc | apply Kd.R_drewN | apply Kd.R_drew)); exact Kd.R_mono HO146.out (fun _ hk => ⟨hk.1.1, hk.2⟩)) hg hat); have n4_ := Aside0.mk (hb); have n5_ := Aside0.mk (ho); clear HO0; clear HO139; clear HO143; clear HO146; clear HB; clear HO136; have HO0 := n0_; have HO139 := n1_; have HO143 := n2_; have HO146 := n3_; have HB := n4_; have HO149 := n5_; clear n0_ n1_ n2_ n3_ n4_ n5_; clear ho hb hg hat))
    go_ret
    exact ⟨_, by first | rfl | (simp [errW_none, errW_some] <;> rfl) | (simp [*, errW_none, errW_some] <;> rfl), by (with_reducible repeat (first | apply Kd.R_alloc | apply Kd.R_drewN | apply Kd.R_drew)); exact Kd.R_mono HO149.out (fun _ hk => hk.1), by repeat (first | (with_reducible first | exact HB.out | apply below_alloc | apply pw_below_drewN | apply below_drew1) | exact HB.out)⟩
  · rw [if_neg c5] at H
    exact absurd H (by simp)
end Go.Proofs.YtbcijmpkmmcdeaaDoor.PAll
end
section
namespace Go.Proofs.YtbcijmpkmmcdeaaDoor.PAll
open Go.RowKit Go.Proofs.YtbcijmpkmmcdeaaDoorW.PrintWords Go.Proofs.YtbcijmpkmmcdeaaDoorW.PrintLast Go.Proofs.YtbcijmpkmmcdeaaDoorW.PrintMore
attribute [local go_sem] max2_int min2_int max_two min_two max_three min_three max_four min_four
set_option linter.unusedVariables false
set_option linter.unusedSimpArgs false
def slices_Equal_byte_byte.l0 : Nat → List Int → List Int → Int → Int → Option (Bool)
  | 0, _, _, _, _ => none
  | k + 1, x0, x1, x12, x13 => if x13 < x12 then (if 0 ≤ x13 then (if x13 < (x0.length : Int) then (if x13 < (x1.length : Int) then (if (rd x0 x13) = (rd x1 x13) then (slices_Equal_byte_byte.l0 k x0 x1 x12 (wrap64 (x13 + 1))) else (some false)) else (none)) else (none)) else (none)) else (some true)
def slices_Equal_byte_byte.f (k : Nat) (l0 : List Int) (l1 : List Int) : Option (Bool) := if (l0.length : Int) = (l1.length : Int) then (slices_Equal_byte_byte.l0 k l0 l1 (l0.length : Int) 0) else (some false)
set_option maxHeartbeats 8000000 in
set_option maxRecDepth 100000 in
theorem slices_Equal_byte_byte.calls (k : Nat) (A0 : Option Addr) (c0 : Nat) (l0 : List Int) (A1 : Option Addr) (c1 : Nat) (l1 : List Int) (r : Bool) (w : World) (hr0 : Kd.C (Kd.int .u8) w A0 l0.length l0) (hc0 : l0.length ≤ c0) (hr1 : Kd.C (Kd.int .u8) w A1 l1.length l1) (hc1 : l1.length ≤ c1) (h : slices_Equal_byte_byte.f k l0 l1 = some r) :
    Calls Tryd.prog 64 #[.slice A0 l0.length c0, .slice A1 l1.length c1] w fun e w' => e = .returned (.bool r) ∧ Drawn0 w w' := by
  have HR0 := Aside0.mk hr0
  have HC0 := Aside0.mk hc0
  clear hr0 hc0
  have HR1 := Aside0.mk hr1
  have HC1 := Aside0.mk hc1
  clear hr1 hc1
  have H : (if (l0.length : Int) = (l1.length : Int) then (slices_Equal_byte_byte.l0 k l0 l1 (l0.length : Int) 0) else (some false)) = some r := h
  clear h
  by_cases c3 : (l0.length : Int) = (l1.length : Int)
  · rw [if_pos c3] at H
    have c3b0 : ((l0.length : Int) == (l1.length : Int)) = true := beq_iff_eq.mpr c3
    have c3b1 : ((l0.length : Int) != (l1.length : Int)) = false := bne_eq_false_iff_eq.mpr c3
    have c3b2 : (l0.length == l1.length) = true := by first | simpa using c3 | (simp at c3 ⊢; omega)
    clear c3
    have H' := Aside0.mk H
    clear H
    go_enter Tryd.func64, Tryd.ntmps64
    go_wp2
    repeat (go_quiet (fail); try go_wp2)
    go_loopg [13] k (fun kq v13 w' => ∃ (x13_1 : Int), v13 = .int .i64 x13_1 ∧ Aside0 (slices_Equal_byte_byte.l0 kq l0 l1 (l0.length : Int) x13_1 = some r) ∧ Aside0 (kq ≤ k) ∧ Drawn0 w w')
    case atStart => exact ⟨(0), (by first | rfl | (simp; done) | (simp [*]; done)), H', ⟨Nat.le_refl _⟩, by repeat (first | exact Drawn0.refl _ | apply Drawn0.step)⟩
    case round =>
      clear H'
      try clear c1
      try clear p2
      try clear c3
      try clear c3b0
      try clear c3b1
      try clear c3b2
      obtain ⟨x13_1, rfl, HA, HK1, ⟨m1, rfl⟩⟩ := hrel
      cases gk with
      | zero => exact absurd HA.out (by simp [slices_Equal_byte_byte.l0])
      | succ k1 =>
        have H := HA.out
        clear HA
        simp only [slices_Equal_byte_byte.l0] at H
        by_cases c4 : x13_1 < (l0.length : Int)
        · rw [if_pos c4] at H
          have c4b0 : decide (x13_1 < (l0.length : Int)) = true := decide_eq_true c4
          clear c4
          by_cases c5 : 0 ≤ x13_1
          · rw [if_pos c5] at H
            have c5b0 : decide (0 ≤ x13_1) = true := decide_eq_true c5
            clear c5
            by_cases c6 : x13_1 < (l0.length : Int)
            · rw [if_pos c6] at H
              have c6b0 : decide (x13_1 < (l0.length : Int)) = true := decide_eq_true c6
              clear c6
              by_cases c7 : x13_1 < (l1.length : Int)
              · rw [if_pos c7] at H
                have c7b0 : decide (x13_1 < (l1.length : Int)) = true := decide_eq_true c7
                clear c7
                by_cases c8 : (rd l0 x13_1) = (rd l1 x13_1)
                · rw [if_pos c8] at H
                  have c8b0 : ((rd l0 x13_1) == (rd l1 x13_1)) = true := beq_iff_eq.mpr c8
                  have c8b1 : ((rd l0 x13_1) != (rd l1 x13_1)) = false := bne_eq_false_iff_eq.mpr c8
                  clear c8
                  have H' := Aside0.mk H
                  clear H
                  have p150 : 0 ≤ (x13_1 : Int) := of_decide_eq_true (by first | (with_reducible assumption) | assumption)
                  have q150 : x13_1 < (l0.length : Int) := of_decide_eq_true (by first | (with_reducible assumption) | assumption)
                  obtain ⟨ad150, e150, hx150_0⟩ := Kd.at_int HR0.out x13_1 p150 q150
                  cases e150
                  replace p150 := eq_true p150
                  replace q150 := eq_true q150
                  have p151 : 0 ≤ (x13_1 : Int) := of_decide_eq_true (by first | (with_reducible assumption) | assumption)
                  have q151 : x13_1 < (l1.length : Int) := of_decide_eq_true (by first | (with_reducible assumption) | assumption)
                  obtain ⟨ad151, e151, hx151_0⟩ := Kd.at_int HR1.out x13_1 p151 q151
                  cases e151
                  replace p151 := eq_true p151
                  replace q151 := eq_true q151
                  go_wp2
                  repeat (go_quiet (fail); try go_wp2)
                  go_roundg k1
                  case measure => have := HK1.out; omega
                  case rel => exact ⟨(wrap64 (x13_1 + 1)), (by first | rfl | (simp; done) | (simp [*]; done)), H', ⟨by have := HK1.out; omega⟩, by repeat (first | exact Drawn0.refl _ | apply Drawn0.step)⟩
                · rw [if_neg c8] at H
                  have c8b0 : ((rd l0 x13_1) == (rd l1 x13_1)) = false := beq_eq_false_iff_ne.mpr c8
                  have c8b1 : ((rd l0 x13_1) != (rd l1 x13_1)) = true := bne_iff_ne.mpr c8
                  obtain rfl := Option.some.inj H
                  have p150 : 0 ≤ (x13_1 : Int) := of_decide_eq_true (by first | (with_reducible assumption) | assumption)
                  have q150 : x13_1 < (l0.length : Int) := of_decide_eq_true (by first | (with_reducible assumption) | assumption)
                  obtain ⟨ad150, e150, hx150_0⟩ := Kd.at_int HR0.out x13_1 p150 q150
                  cases e150
                  replace p150 := eq_true p150
                  replace q150 := eq_true q150
                  have p151 : 0 ≤ (x13_1 : Int) := of_decide_eq_true (by first | (with_reducible assumption) | assumption)
                  have q151 : x13_1 < (l1.length : Int) := of_decide_eq_true (by first | (with_reducible assumption) | assumption)
                  obtain ⟨ad151, e151, hx151_0⟩ := Kd.at_int HR1.out x13_1 p151 q151
                  cases e151
                  replace p151 := eq_true p151
                  replace q151 := eq_true q151
                  go_wp2
                  repeat (go_quiet (fail); try go_wp2)
                  go_ret
                  exact ⟨by first | rfl | (simp; done) | (simp [*]; done), by repeat (first | exact Drawn0.refl _ | apply Drawn0.step)⟩
              · rw [if_neg c7] at H
                exact absurd H (by simp)
            · rw [if_neg c6] at H
              exact absurd H (by simp)
          · rw [if_neg c5] at H
            exact absurd H (by simp)
        · rw [if_neg c4] at H
          have c4b0 : decide (x13_1 < (l0.length : Int)) = false := decide_eq_false c4
          clear c4
          obtain rfl := Option.some.inj H
          go_wp2
          repeat (go_quiet (fail); try go_wp2)
          go_ret
          exact ⟨by first | rfl | (simp; done) | (simp [*]; done), by repeat (first | exact Drawn0.refl _ | apply Drawn0.step)⟩
  · rw [if_neg c3] at H
    have c3b0 : ((l0.length : Int) == (l1.length : Int)) = false := beq_eq_false_iff_ne.mpr c3
    have c3b1 : ((l0.length : Int) != (l1.length : Int)) = true := bne_iff_ne.mpr c3
    have c3b2 : (l0.length == l1.length) = false := by first | simpa using c3 | (simp at c3 ⊢; omega)
    obtain rfl := Option.some.inj H
    go_enter Tryd.func64, Tryd.ntmps64
    go_wp2
    repeat (go_quiet (fail); try go_wp2)
    go_ret
    exact ⟨by first | rfl | (simp; done) | (simp [*]; done), by repeat (first | exact Drawn0.refl _ | apply Drawn0.step)⟩
end Go.Proofs.YtbcijmpkmmcdeaaDoor.PAll
end
section
namespace Go.Proofs.YtbcijmpkmmcdeaaDoor.PAll
open Go.RowKit Go.Proofs.YtbcijmpkmmcdeaaDoorW.PrintWords Go.Proofs.YtbcijmpkmmcdeaaDoorW.PrintLast Go.Proofs.YtbcijmpkmmcdeaaDoorW.PrintMore
attribute [local go_sem] max2_int min2_int max_two min_two max_three min_three max_four min_four
set_option linter.unusedVariables false
set_option linter.unusedSimpArgs false
def crc_Open.f (k : Nat) (l0 : List Int) : Option (List Int × Bool) := if (wrap64 ((l0.length : Int) - 4)) < 0 then (some (([] : List Int), false)) else (if 0 ≤ (wrap64 ((l0.length : Int) - 4)) then (if (wrap64 ((l0.length : Int) - 4)) ≤ (l0.length : Int) then ((crc_Seal.f k (l0.take ((wrap64 ((l0.length : Int) - 4)) : Int).toNat)).bind fun t153 => ((slices_Equal_byte_byte.f k t153 l0).bind fun t156 => (if t156 = true then ((slices_Clone_byte_byte.f (l0.take ((wrap64 ((l0.length : Int) - 4)) : Int).toNat)).bind fun t158 => (some (t158, true))) else (some (([] : List Int), false))))) else (none)) else (none))
set_option maxHeartbeats 8000000 in
set_option maxRecDepth 100000 in
theorem crc_Open.cut_ {P : Program} {f : FuncId} {A_ : Option Addr} {n_ m_ c_ : Nat} {w_ : World} {Q_ : Ending → World → Prop} (h : n_ = m_) (H : Calls P f #[.slice A_ n_ c_] w_ Q_) : Calls P f #[.slice A_ m_ c_] w_ Q_ := h ▸ H
set_option maxHeartbeats 8000000 in
set_option maxRecDepth 100000 in
theorem crc_Open.calls (k : Nat) (A0 : Option Addr) (c0 : Nat) (l0 : List Int) (r1 : List Int) (r2 : Bool) (w : World) (hr0 : Kd.C (Kd.int .u8) w A0 l0.length l0) (hc0 : l0.length ≤ c0) (h : crc_Open.f k l0 = some (r1, r2)) (hl_ : Half w) :
    Calls Tryd.prog 43 #[.slice A0 l0.length c0] w fun e w' => ∃ v0_ : Value, e = .returned (.tuple #[v0_, .bool r2]) ∧ Kd.R (Kd.int .u8) 5 w' w.heap.size (fun _ => True) v0_ r1 ∧ Below w.heap.size w w' := by
  have HLAID := Aside0.mk hl_
  clear hl_
  have HR0 := Aside0.mk hr0
  have HC0 := Aside0.mk hc0
  clear hr0 hc0
  have HB := Aside0.mk (Below.refl w.heap.size w)
  have H : (if (wrap64 ((l0.length : Int) - 4)) < 0 then (some (([] : List Int), false)) else (if 0 ≤ (wrap64 ((l0.length : Int) - 4)) then (if (wrap64 ((l0.length : Int) - 4)) ≤ (l0.length : Int) then ((crc_Seal.f k (l0.take ((wrap64 ((l0.length : Int) - 4)) : Int).toNat)).bind fun t153 => ((slices_Equal_byte_byte.f k t153 l0).bind fun t156 => (if t156 = true then ((slices_Clone_byte_byte.f (l0.take ((wrap64 ((l0.length : Int) - 4)) : Int).toNat)).bind fun t158 => (some (t158, true))) else (some (([] : List Int), false))))) else (none)) else (none))) = some (r1, r2) := h
  clear h
  by_cases c2 : (wrap64 ((l0.length : Int) - 4)) < 0
  · rw [if_pos c2] at H
    have c2b0 : decide ((wrap64 ((l0.length : Int) - 4)) < 0) = true := decide_eq_true c2
    clear c2
    simp only [Option.some.injEq, Prod.mk.injEq] at H
    obtain ⟨rfl, rfl⟩ := H
    go_enter Tryd.func43, Tryd.ntmps43
    go_wp2
    go_ret2
    exact ⟨_, by first | rfl | (simp [errW_none, errW_some] <;> rfl) | (simp [*, errW_none, errW_some] <;> rfl), by first | exact Kd.R_nil _ _ _ _ _ | exact Kd.N_nil _ _ _ _ _ | exact Kd.V_nil _ _ _ _ _ | exact Kd.Q_nil _ _ _ _ _ | exact Kd.S_nil _ _ _ _ _, by repeat (first | (with_reducible first | exact HB.out | apply below_alloc | apply pw_below_drewN | apply below_drew1) | exact HB.out)⟩
  · rw [if_neg c2] at H
    have c2b0 : decide ((wrap64 ((l0.length : Int) - 4)) < 0) = false := decide_eq_false c2
    clear c2
    obtain ⟨ji3, hji3⟩ : ∃ j_ : Int, (wrap64 ((l0.length : Int) - 4)) = j_ := ⟨_, rfl⟩
    replace H : (if 0 ≤ (ji3) then (if (ji3) ≤ (l0.length : Int) then ((crc_Seal.f k (l0.take ((ji3) : Int).toNat)).bind fun t153 => ((slices_Equal_byte_byte.f k t153 l0).bind fun t156 => (if t156 = true then ((slices_Clone_byte_byte.f (l0.take ((ji3) : Int).toNat)).bind fun t158 => (some (t158, true))) else (some (([] : List Int), false))))) else (none)) else (none)) = some (r1, r2) := by first | (rw [hji3] at H; exact H) | (simp only [hji3] at H ⊢; exact H)
    (try rw [hji3] at c2b0)
    have hji3w : (IntKind.i64.wrap ((l0.length : Int) - 4)) = ji3 := (i64_w _).trans hji3
    by_cases c4 : 0 ≤ (ji3)
    · rw [if_pos c4] at H
      have c4b0 := eq_true c4
      have c4b1 : decide (0 ≤ (ji3)) = true := decide_eq_true c4
      clear c4
      by_cases c5 : (ji3) ≤ (l0.length : Int)
      · rw [if_pos c5] at H
        have c5b0 := eq_true c5
        have c5b1 : decide ((ji3) ≤ (l0.length : Int)) = true := decide_eq_true c5
        clear c5
        replace H := Option.bind_eq_some_iff.mp H
        obtain ⟨t153, A60, H⟩ := H
        replace H : ((slices_Equal_byte_byte.f k t153 l0).bind fun t156 => (if t156 = true then ((slices_Clone_byte_byte.f (l0.take ((ji3) : Int).toNat)).bind fun t158 => (some (t158, true))) else (some (([] : List Int), false)))) = some (r1, r2) := H
        have A6 := Aside0.mk A60
        clear A60
        replace H := Option.bind_eq_some_iff.mp H
        obtain ⟨t156, A70, H⟩ := H
        replace H : (if t156 = true then ((slices_Clone_byte_byte.f (l0.take ((ji3) : Int).toNat)).bind fun t158 => (some (t158, true))) else (some (([] : List Int), false))) = some (r1, r2) := H
        have A7 := Aside0.mk A70
        clear A70
        by_cases c8 : t156 = true
        · subst c8
          have H1 : ((slices_Clone_byte_byte.f (l0.take ((ji3) : Int).toNat)).bind fun t158 => (some (t158, true))) = some (r1, r2) := by rw [if_pos rfl] at H; exact H
          clear H
          have H := H1
          clear H1
          have c9b0 := eq_true (of_decide_eq_true (by first | (with_reducible assumption) | assumption) : 0 ≤ (ji3))
          have c10b0 := eq_true (of_decide_eq_true (by first | (with_reducible assumption) | assumption) : (ji3) ≤ (l0.length : Int))
          replace H := Option.bind_eq_some_iff.mp H
          obtain ⟨t158, A110, H⟩ := H
          replace H : (some (t158, true)) = some (r1, r2) := H
          have A11 := Aside0.mk A110
          clear A110
          simp only [Option.some.injEq, Prod.mk.injEq] at H
          obtain ⟨rfl, rfl⟩ := H
          obtain ⟨i012, hi012, _, hsz12, _⟩ := info_parts info5
          obtain ⟨hcut12, hA12, hC12⟩ := print_take_of (P := Tryd.prog) (Value.int .u8) 0 22 5 .i64 Tryd.underlying22 hi012 hsz12 A0 c0 l0 (ji3) (of_decide_eq_true (by first | (with_reducible assumption) | assumption)) (of_decide_eq_true (by first | (with_reducible assumption) | assumption)) HC0.out
          have hlen_ := Aside0.mk (show (l0.take ((ji3) : Int).toNat).length = ((ji3) : Int).toNat from by rw [List.length_take]; have e_ : ji3 ≤ (l0.length : Int) := of_decide_eq_true (by first | (with_reducible assumption) | assumption); omega)
          have HR152 := Aside0.mk (Kd.C_of_reads (h1 := fun _ => rfl) (hA12 _ (Kd.reads_of_C HR0.out)))
          have HC152 := Aside0.mk hC12
          clear hA12 hC12 hi012 hsz12
          go_enter Tryd.func43, Tryd.ntmps43
          go_wp2_with (first | (go_at_call 52; refine crc_Open.cut_ hlen_.out ?_; (with_reducible refine (crc_Seal.calls k (fun k_ => k_ < w.heap.size) _ _ (l0.take ((ji3) : Int).toNat) t153 _ ?side1 A6.out (Half.keep HLAID.out (by repeat (first | (with_reducible first | exact HB.out | apply below_alloc | apply pw_below_drewN | apply below_drew1 | refine below_set ?_ (Aside0.out (by assumption))) | exact HB.out | refine below_set ?_ (Aside0.out (by assumption)))))).mono ?_); (case side1 => exact Kd.V_mk HC152.out (Kd.F_below (Kd.C_F (Kd.heap_int .u8) HR152.out) (by repeat (first | (with_reducible first | exact HB.out | apply below_alloc | apply pw_below_drewN | apply below_drew1) | exact HB.out)))); rintro e w13 ⟨v154, rfl, ho0, hb⟩; have n0_ := Aside0.mk (Kd.R_lower (Kd.R_mono (ok' := fun k_ => True) ho0 (fun _ hk_ => trivial)) (below_size (by repeat (first | (with_reducible first | exact HB.out | apply below_alloc | apply pw_below_drewN | apply below_drew1) | exact HB.out)))); have n1_ := Aside0.mk (below_step (by repeat (first | (with_reducible first | exact HB.out | apply below_alloc | apply pw_below_drewN | apply below_drew1) | exact HB.out)) hb); clear HB; have HO155 := n0_; have HB := n1_; clear n0_ n1_; (try clear hb); (try clear hb2); (try clear hk); (try clear hi); (try clear ho0); obtain ⟨Ao14, co14, eo14⟩ := Kd.R_slice HO155.out; subst eo14) | (go_at_call 64; (with_reducible refine (slices_Equal_byte_byte.calls k _ _ t153 _ _ l0 true _ ?side1 ?side2 ?side3 ?side4 A7.out).mono ?_); (case side1 => repeat (first | exact (Kd.R_reads' HO155.out).2.2 | (with_reducible refine Kd.C_alloc ?_ _) | (with_reducible refine Kd.C_drewN ?_ _) | (with_reducible refine Kd.C_drew ?_))); (case side2 => exact (Kd.R_reads' HO155.out).2.1); (case side3 => repeat (first | exact (Kd.C_below HR0.out HB.out) | (with_reducible refine Kd.C_alloc ?_ _) | (with_reducible refine Kd.C_drewN ?_ _) | (with_reducible refine Kd.C_drew ?_))); (case side4 => exact HC0.out); rintro e w' ⟨rfl, ⟨nd, rfl⟩⟩; obtain ⟨i015, hi015, _, hsz15, _⟩ := info_parts info5; obtain ⟨hcut15, hA15, hC15⟩ := print_take_of (P := Tryd.prog) (Value.int .u8) 0 22 5 .i64 Tryd.underlying22 hi015 hsz15 A0 c0 l0 (ji3) (of_decide_eq_true (by first | (with_reducible assumption) | assumption)) (of_decide_eq_true (by first | (with_reducible assumption) | assumption)) HC0.out; have HR157 := Aside0.mk (Kd.C_of_reads (h1 := fun _ => rfl) (hA15 _ (Kd.reads_of_C HR0.out))); have HC157 := Aside0.mk hC15; clear hA15 hC15 hi015 hsz15) | ((with_reducible refine gate_callee (f := 39) rfl ?_); refine goesL_ (some 22) rfl rfl Tryd.func39 (by kernel_rfl) rfl #[.slice A0 (l0.take ((ji3) : Int).toNat).length c0] rfl (by (try simp only [List.map_toArray, List.map_cons, List.map_nil]); first | done | (rw [show (l0.take ((ji3) : Int).toNat).length = (ji3).toNat from (by rw [List.length_take]; have h_ : ((ji3) : Int) ≤ (l0.length : Int) := of_decide_eq_true (by first | (with_reducible assumption) | assumption); omega)] <;> rfl) | (simp only [hji3]; rfl) | rfl | (simp only [List.length_drop, List.length_take]; rfl)) ?_; (with_reducible refine (slices_Clone_byte_byte.calls _ _ (l0.take ((ji3) : Int).toNat) t158 _ ?side1 ?side2 A11.out).mono ?_); (case side1 => repeat (first | exact (Kd.C_below HR157.out (by repeat (first | (with_reducible first | exact HB.out | apply below_alloc | apply pw_below_drewN | apply below_drew1) | exact HB.out))) | (with_reducible refine Kd.C_alloc ?_ _) | (with_reducible refine Kd.C_drewN ?_ _) | (with_reducible refine Kd.C_drew ?_))); (case side2 => exact HC157.out); rintro e w16 ⟨v159, rfl, ho0, hb⟩; refine ⟨_, rfl, ?_⟩; have n0_ := Aside0.mk (Kd.R_elder' (by (with_reducible repeat (first | apply Kd.R_alloc | apply Kd.R_drewN | apply Kd.R_drew)); exact HO155.out) (Kd.R_base ho0) hb); have n1_ := Aside0.mk (Kd.R_lower (Kd.R_new' ho0 (Kd.R_lt (by (with_reducible repeat (first | apply Kd.R_alloc | apply Kd.R_drewN | apply Kd.R_drew)); exact HO155.out))) (below_size (by repeat (first | (with_reducible first | exact HB.out | apply below_alloc | apply pw_below_drewN | apply below_drew1) | exact HB.out)))); have n2_ := Aside0.mk (below_step (by repeat (first | (with_reducible first | exact HB.out | apply below_alloc | apply pw_below_drewN | apply below_drew1) | exact HB.out)) hb); clear HO155; clear HB; have HO155 := n0_; have HO160 := n1_; have HB := n2_; clear n0_ n1_ n2_; (try clear hb); (try clear hb2); (try clear hk); (try clear hi); (try clear ho0)))
          go_ret2
          exact ⟨_, by first | rfl | (simp [errW_none, errW_some] <;> rfl) | (simp only [← hji3]; first | rfl | (simp [errW_none, errW_some] <;> rfl)) | (simp [*, errW_none, errW_some] <;> rfl), by (with_reducible repeat (first | apply Kd.R_alloc | apply Kd.R_drewN | apply Kd.R_drew)); exact Kd.R_mono HO160.out (fun _ hk => trivial), by repeat (first | (with_reducible first | exact HB.out | apply below_alloc | apply pw_below_drewN | apply below_drew1) | exact HB.out)⟩
        · replace c8 := Bool.eq_false_iff.mpr c8
          subst c8
          have H1 : (some (([] : List Int), false)) = some (r1, r2) := by rw [if_neg (show ¬ (false = true) by decide)] at H; exact H
          clear H
          have H := H1
          clear H1
          simp only [Option.some.injEq, Prod.mk.injEq] at H
          obtain ⟨rfl, rfl⟩ := H
          obtain ⟨i017, hi017, _, hsz17, _⟩ := info_parts info5
          obtain ⟨hcut17, hA17, hC17⟩ := print_take_of (P := Tryd.prog) (Value.int .u8) 0 22 5 .i64 Tryd.underlying22 hi017 hsz17 A0 c0 l0 (ji3) (of_decide_eq_true (by first | (with_reducible assumption) | assumption)) (of_decide_eq_true (by first | (with_reducible assumption) | assumption)) HC0.out
          have hlen_ := Aside0.mk (show (l0.take ((ji3) : Int).toNat).length = ((ji3) : Int).toNat from by rw [List.length_take]; have e_ : ji3 ≤ (l0.length : Int) := of_decide_eq_true (by first | (with_reducible assumption) | assumption); omega)
          have HR152 := Aside0.mk (Kd.C_of_reads (h1 := fun _ => rfl) (hA17 _ (Kd.reads_of_C HR0.out)))
          have HC152 := Aside0.mk hC17
          clear hA17 hC17 hi017 hsz17
          go_enter Tryd.func43, Tryd.ntmps43
          go_wp2_with (first | (go_at_call 52; refine crc_Open.cut_ hlen_.out ?_; (with_reducible refine (crc_Seal.calls k (fun k_ => k_ < w.heap.size) _ _ (l0.take ((ji3) : Int).toNat) t153 _ ?side1 A6.out (Half.keep HLAID.out (by repeat (first | (with_reducible first | exact HB.out | apply below_alloc | apply pw_below_drewN | apply below_drew1 | refine below_set ?_ (Aside0.out (by assumption))) | exact HB.out | refine below_set ?_ (Aside0.out (by assumption)))))).mono ?_); (case side1 => exact Kd.V_mk HC152.out (Kd.F_below (Kd.C_F (Kd.heap_int .u8) HR152.out) (by repeat (first | (with_reducible first | exact HB.out | apply below_alloc | apply pw_below_drewN | apply below_drew1) | exact HB.out)))); rintro e w18 ⟨v154, rfl, ho0, hb⟩; have n0_ := Aside0.mk (Kd.R_lower (Kd.R_mono (ok' := fun k_ => True) ho0 (fun _ hk_ => trivial)) (below_size (by repeat (first | (with_reducible first | exact HB.out | apply below_alloc | apply pw_below_drewN | apply below_drew1) | exact HB.out)))); have n1_ := Aside0.mk (below_step (by repeat (first | (with_reducible first | exact HB.out | apply below_alloc | apply pw_below_drewN | apply below_drew1) | exact HB.out)) hb); clear HB; have HO155 := n0_; have HB := n1_; clear n0_ n1_; (try clear hb); (try clear hb2); (try clear hk); (try clear hi); (try clear ho0); obtain ⟨Ao19, co19, eo19⟩ := Kd.R_slice HO155.out; subst eo19) | (go_at_call 64; (with_reducible refine (slices_Equal_byte_byte.calls k _ _ t153 _ _ l0 false _ ?side1 ?side2 ?side3 ?side4 A7.out).mono ?_); (case side1 => repeat (first | exact (Kd.R_reads' HO155.out).2.2 | (with_reducible refine Kd.C_alloc ?_ _) | (with_reducible refine Kd.C_drewN ?_ _) | (with_reducible refine Kd.C_drew ?_))); (case side2 => exact (Kd.R_reads' HO155.out).2.1); (case side3 => repeat (first | exact (Kd.C_below HR0.out HB.out) | (with_reducible refine Kd.C_alloc ?_ _) | (with_reducible refine Kd.C_drewN ?_ _) | (with_reducible refine Kd.C_drew ?_))); (case side4 => exact HC0.out); rintro e w' ⟨rfl, ⟨nd, rfl⟩⟩))
          go_ret2
          exact ⟨_, by first | rfl | (simp [errW_none, errW_some] <;> rfl) | (simp only [← hji3]; first | rfl | (simp [errW_none, errW_some] <;> rfl)) | (simp [*, errW_none, errW_some] <;> rfl), by first | exact Kd.R_nil _ _ _ _ _ | exact Kd.N_nil _ _ _ _ _ | exact Kd.V_nil _ _ _ _ _ | exact Kd.Q_nil _ _ _ _ _ | exact Kd.S_nil _ _ _ _ _, by repeat (first | (with_reducible first | exact HB.out | apply below_alloc | apply pw_below_drewN | apply below_drew1) | exact HB.out)⟩
      · rw [if_neg c5] at H
        exact absurd H (by simp)
    · rw [if_neg c4] at H
      exact absurd H (by simp)
end Go.Proofs.YtbcijmpkmmcdeaaDoor.PAll
end
section
namespace Go.Proofs.YtbcijmpkmmcdeaaDoor.PAll
open Go.RowKit Go.Proofs.YtbcijmpkmmcdeaaDoorW.PrintWords Go.Proofs.YtbcijmpkmmcdeaaDoorW.PrintLast Go.Proofs.YtbcijmpkmmcdeaaDoorW.PrintMore
attribute [local go_sem] max2_int min2_int max_two min_two max_three min_three max_four min_four
set_option linter.unusedVariables false
set_option linter.unusedSimpArgs false
theorem part_infoE : (Tryd.prog.info? 22).map (fun i => (i.zero, i.size, i.bytes)) = some (some (.slice none 0 0), 1, 24) := by kernel_rfl
def partsF : Nat → List Int → Option (List (List Int))
  | _, [] => some []
  | 0, _ :: _ => none
  | _ + 1, [_] => none
  | fu + 1, a :: b :: r => if (a + 256 * b).toNat ≤ r.length then (partsF fu (r.drop (a + 256 * b).toNat)).map (r.take (a + 256 * b).toNat :: ·) else none
def Left (g : Nat) (W : World) (A : Option Addr) (rest : List Int) : Prop :=
  rest ≠ [] → ∃ off, A = some ⟨g, off, none⟩ ∧ (∃ cur, W.heap[g]? = some (.cells cur 5 (0, 0))) ∧ ∀ j z, rest[j]? = some z → W.cell? ⟨g, off + j, none⟩ = some (.int .u8 z)
theorem FKwin {W : World} {g o cc : Nat} {p : List Int} {cur : Array Value} (hcur : W.heap[g]? = some (.cells cur 5 (0, 0))) (hc : ∀ j z, p[j]? = some z → W.cell? ⟨g, o + j, none⟩ = some (.int .u8 z)) (hl : p.length ≤ 9223372036854775807) (hcc : p.length ≤ cc) :
    Kd.FK (Kd.slice 5 (Kd.int .u8)) W (fun k => k = g) p [.slice (some ⟨g, o, none⟩) p.length cc] := fun W' hW' => by
  have hlt : g < W.heap.size := (Array.getElem?_eq_some_iff.1 hcur).1
  have hg := hW' g rfl hlt
  refine ⟨_, cc, rfl, hcc, rfl, hl, fun _ => ⟨_, rfl, fun j z hz => ⟨[.int .u8 z], rfl, rfl, fun i u hu => ?_⟩⟩⟩
  rcases i with _ | i
  · simp only [List.getElem?_cons_zero, Option.some.injEq] at hu
    subst hu
    have h3 := hc j z hz
    rw [show j * (Kd.int .u8).sz + 0 = j from by simp [Kd.int, Kd.scalar], WideShapes.add_plain]
    rw [← h3]; simp [World.cell?, hg]
  · simp at hu
theorem left_next {g off c K : Nat} {x y : Int} {wr w9 : World} {r : List Int} {cur : Array Value} (hc : ∀ j z, (x :: y :: r)[j]? = some z → wr.cell? ⟨g, off + j, none⟩ = some (.int .u8 z)) (hq : wr.heap[g]? = some (.cells cur 5 (0, 0))) (h9 : w9.heap[g]? = some (.cells cur 5 (0, 0)))
    (hk : K ≤ r.length) (hle : r.length + 1 + 1 ≤ c) : Left g w9 (if c = K + 2 then some ⟨g, off, none⟩ else some ⟨g, off + (K + 2), none⟩) (r.drop K) := fun hne => by
  have hl : 0 < (r.drop K).length := List.length_pos_iff.2 hne
  rw [List.length_drop] at hl
  refine ⟨off + (K + 2), by rw [if_neg (by omega)], ⟨cur, h9⟩, fun j z hz => ?_⟩
  have h3 := hc (K + 2 + j) z (by rw [show K + 2 + j = (K + j) + 1 + 1 by omega]; simpa [List.getElem?_drop] using hz)
  rw [← Nat.add_assoc] at h3
  rw [← h3]
  simp [World.cell?, hq, h9]
def PartPost (w : World) (r : Option (List (List Int))) (e : Ending) (w' : World) : Prop :=
  ∃ v0_ : Value, e = .returned (.tuple #[v0_, .int .i64 (if r.isSome then 0 else 10)]) ∧ Kd.N (Kd.slice 5 (Kd.int .u8)) 22 w' w.heap.size (fun k_ => (w.heap.size ≤ k_)) v0_ (r.getD []) ∧ Below w.heap.size w w'
set_option maxRecDepth 100000 in
set_option maxHeartbeats 4000000 in
theorem part_loop (A0 : Option Addr) (c0 : Nat) (l0 : List Int) (w : World) (hr0 : Kd.C (Kd.int .u8) w A0 l0.length l0) (hc0 : l0.length ≤ c0) (hmx : l0.length ≤ 1099511627776) (hb : ∀ x ∈ l0, 0 ≤ x ∧ x ≤ 255) :
    Calls Tryd.prog 44 #[.slice A0 l0.length c0] w (PartPost w (partsF l0.length l0)) := by
  have HR0 := Aside0.mk hr0
  have HC0 := Aside0.mk hc0
  have hcl := fun W (hW : Kd.C (Kd.int .u8) W A0 l0.length l0) => slices_Clone_byte_byte.calls A0 c0 l0 l0 W hW hc0 (by simp [slices_Clone_byte_byte.f]; omega)
  clear hr0 hc0
  go_enter Tryd.func44, Tryd.ntmps44
  go_wp2_with (first | (go_at_call 39; refine (hcl _ HR0.out).mono ?_; rintro e w1 ⟨v0, rfl, ho, hbel⟩))
  obtain ⟨g, A, c, rfl, hc, hleft, hgw⟩ : ∃ g A c, v0 = .slice A l0.length c ∧ l0.length ≤ c ∧ Left g w1 A l0 ∧ w.heap.size ≤ g := by
    rcases (Kd.own_of_R ho).2 with ⟨rfl, h0⟩ | ⟨g, cap, cur, rfl, hg, hh, hn, hm, hs, ht⟩
    · have hl0 : l0 = [] := List.eq_nil_of_length_eq_zero h0
      subst hl0
      exact ⟨w.heap.size, none, 0, rfl, Nat.le_refl _, fun h => absurd rfl h, Nat.le_refl _⟩
    · refine ⟨g, _, cap, rfl, hn, fun hne => ⟨0, rfl, ⟨cur, hh⟩, fun j z hz => ?_⟩, hg⟩
      have h3 : (cur.toList.take (l0.length * 1))[j]? = some (.int .u8 z) := by rw [ht]; simp [encs, hz]
      rw [List.getElem?_take] at h3
      split at h3
      · simp only [World.cell?, hh, Nat.zero_add]
        simpa using h3
      · cases h3
  have HB0 := Aside0.mk hbel
  have HLE := Aside0.mk hleft
  have HGW := Aside0.mk hgw
  have HPF := Lib.hid (rfl : partsF l0.length l0 = partsF l0.length l0)
  clear hbel hleft hgw ho hcl
  go_loopw [0, 4] (fun bv ov wr => ∃ (pre : List (List Int)) (rest : List Int) (A : Option Addr) (c fu : Nat), bv = .slice A rest.length c ∧ Aside0 (rest.length ≤ c) ∧ Aside0 (∀ x ∈ rest, 0 ≤ x ∧ x ≤ 255) ∧ rest.length ≤ 1099511627776 ∧ Aside0 (Left g wr A rest) ∧ Aside0 (pre.length + rest.length ≤ l0.length) ∧ Aside0 (rest.length ≤ fu ∧ partsF l0.length l0 = (partsF fu rest).map (pre ++ ·)) ∧ Aside0 (Kd.N (Kd.slice 5 (Kd.int .u8)) 22 wr w.heap.size (fun k_ => w.heap.size ≤ k_) ov pre) ∧ Aside0 (Below w.heap.size w wr))
    (fun bv _ _ => match bv with | .slice _ n _ => n | _ => 0)
  case atStart => exact ⟨[], l0, A, c, l0.length, rfl, ⟨hc⟩, ⟨hb⟩, hmx, HLE, ⟨by simp⟩, ⟨Nat.le_refl _, by simp⟩, ⟨Kd.N_nil _ _ _ _ _⟩, HB0⟩
  case round =>
    clear HLE HB0 hc
    obtain ⟨pre, rest, A2, c2, fu, rfl, HC, HBY, hrl, HLE, HPL, HFU, HN, HB⟩ := hrel
    cases rest with
    | nil =>
      have hfin : partsF l0.length l0 = some pre := by rw [HFU.out.2]; cases fu <;> simp [partsF]
      have HF := Lib.hid hfin
      clear hfin
      go_wp2
      go_ret2
      rw [HF.out]
      exact ⟨_, by simp, HN.out, HB.out⟩
    | cons a r1 =>
      cases r1 with
      | nil =>
        have hfin : partsF l0.length l0 = none := by rw [HFU.out.2]; cases fu <;> simp [partsF]
        have HF := Lib.hid hfin
        clear hfin
        go_wp2
        go_ret2
        rw [HF.out]
        exact ⟨_, by simp, Kd.N_nil _ _ _ _ _, HB.out⟩
      | cons b r =>
        obtain ⟨off, rfl, ⟨cur, hcur⟩, hcells⟩ := HLE.out (by simp)
        have hca : wr.cell? ⟨g, off, none⟩ = some (.int .u8 a) := hcells 0 a rfl
        have hcb : wr.cell? ⟨g, off + 1, none⟩ = some (.int .u8 b) := hcells 1 b rfl
        have hab := HBY.out a (by simp)
        have hbb := HBY.out b (by simp)
        have ha0 := hab.1
        have ha1 := hab.2
        have hb0 := hbb.1
        have hb1 := hbb.2
        have hcc : r.length + 1 + 1 ≤ c2 := HC.out
        have HCL := Aside0.mk hcells
        clear hab hbb hcells hb
        by_cases hk : (a + 256 * b).toNat ≤ r.length
        · have hd : decide ((r.length : Int) + 1 + 1 < 2 + a + b * 256) = false := decide_eq_false (by omega)
          have hd2 : decide (2 + a + b * 256 ≤ (r.length : Int) + 1 + 1) = true := decide_eq_true (by omega)
          obtain ⟨K, hK⟩ : ∃ K : Nat, a + 256 * b = K := ⟨(a + 256 * b).toNat, by omega⟩
          rw [show (a + 256 * b).toNat = K by omega] at hk
          have HK := Lib.hid hK
          have hv : 2 + a + b * 256 = ((K + 2 : Nat) : Int) := by omega
          clear hK hd hd2
          go_wp2
          go_quiet (fail)
          clear hv
          have hd3 : decide ((r.length : Int) + 1 + 1 < (K : Int) + 2) = false := decide_eq_false (by omega)
          have hcur2 : (wr.drewN nq).heap[g]? = some (.cells cur 5 (0, 0)) := hcur
          have HND := Aside0.mk (Kd.N_drewN HN.out nq)
          have HBD := Aside0.mk (pw_below_drewN HB.out nq)
          have hfu : partsF l0.length l0 = ((partsF (fu - 1) (r.drop K)).map ((pre ++ [r.take K]) ++ ·)) := by
            rw [HFU.out.2]
            have hf1 := HFU.out.1
            simp only [List.length_cons] at hf1
            obtain ⟨fu, rfl⟩ : ∃ f, fu = f + 1 := ⟨fu - 1, by omega⟩
            simp only [partsF, show (a + 256 * b).toNat = K by have := HK.out; omega, if_pos hk, Nat.add_sub_cancel, Option.map_map]
            congr 1
            funext z
            simp
          have HFN := Lib.hid hfu
          clear hfu hcur
          rcases Nat.eq_zero_or_pos K with rfl | hKp
          · go_wp2_with (at_builtin; refine Kd.N_append (Kd.slice 5 (Kd.int .u8)) (w0 := w) w.heap.size rfl (.tmp 29) (.tmp 34) 68 22 (.slice none 0 0) 24 rfl Tryd.underlying68 part_infoE rfl (by decide) (by decide) u4 pre [] _ (fun k_ => w.heap.size ≤ k_) (fun k => k = g) rfl rfl ?hp ?hokp ?hfr ?HO ?HB ?hbase ?hl ?_; (case hp => exact (FKwin (p := []) hcur2 (fun j z hz => by simp at hz) (by simp) (by simp))); (case hokp => rintro k rfl; exact ⟨HGW.out, Kd.N_ne HND.out hcur2 (by decide)⟩); (case hfr => intro k hk; exact Nat.le_trans (below_size HBD.out) hk); (case HO => exact HND.out); (case HB => exact HBD.out); (case hbase => exact below_size HBD.out); (case hl => have := HPL.out; simp only [List.length_cons] at this; omega); intro v9 w9 hn9 hb9 hg9 hat9; obtain ⟨A9, c9, rfl⟩ := Kd.N_slice hn9; have HN9 := Aside0.mk hn9; have HB9 := Aside0.mk hb9; have hw9 : w9.heap[g]? = some (.cells cur 5 (0, 0)) := (hg9.block g (Array.getElem?_eq_some_iff.1 hcur2).1 (Kd.N_ne HND.out hcur2 (by decide))).trans hcur2; clear hn9 hb9 hg9 hat9)
            go_roundw
            case rel => exact ⟨pre ++ [[]], r, _, _, fu - 1, rfl, ⟨by have := HC.out; simp only [List.length_cons] at this; omega⟩, ⟨fun x hx => HBY.out x (by simp [hx])⟩, by simp only [List.length_cons] at hrl; omega, ⟨left_next (K := 0) HCL.out hcur2 hw9 (by omega) (by omega)⟩, ⟨by have := HPL.out; simp only [List.length_cons, List.length_append, List.length_nil] at this ⊢; omega⟩, ⟨by have := HFU.out.1; simp only [List.length_cons] at this; omega, by simpa using HFN.out⟩, ⟨by simpa using HN9.out⟩, HB9⟩
            case measure => simp; omega
          · have hwin : Aside0 (∀ j z, (r.take K)[j]? = some z → (wr.drewN nq).cell? ⟨g, off + 2 + j, none⟩ = some (.int .u8 z)) := ⟨fun j z hz => by
              have hz2 : (a :: b :: r)[j + 2]? = some z := by
                rw [List.getElem?_take] at hz
                split at hz
                · simpa using hz
                · cases hz
              have := HCL.out (j + 2) z hz2
              rw [show off + 2 + j = off + (j + 2) by omega]
              exact this⟩
            have hlt_ : (r.take K).length = K := by rw [List.length_take]; omega
            have HFKW : Aside0 (Kd.FK (Kd.slice 5 (Kd.int .u8)) (wr.drewN nq) (fun k => k = g) (r.take K) [.slice (some ⟨g, off + 2, none⟩) K K]) := ⟨by
              have hw_ := FKwin (o := off + 2) (cc := K) (p := r.take K) hcur2 hwin.out (by simp only [List.length_cons] at hrl; omega) (by omega)
              rw [hlt_] at hw_
              exact hw_⟩
            clear hlt_
            go_wp2_with (at_builtin; refine Kd.N_append (Kd.slice 5 (Kd.int .u8)) (w0 := w) w.heap.size rfl (.tmp 29) (.tmp 34) 68 22 (.slice none 0 0) 24 rfl Tryd.underlying68 part_infoE rfl (by decide) (by decide) u4 pre (r.take K) _ (fun k_ => w.heap.size ≤ k_) (fun k => k = g) rfl rfl ?hp ?hokp ?hfr ?HO ?HB ?hbase ?hl ?_; (case hp => exact HFKW.out); (case hokp => rintro k rfl; exact ⟨HGW.out, Kd.N_ne HND.out hcur2 (by decide)⟩); (case hfr => intro k hk; exact Nat.le_trans (below_size HBD.out) hk); (case HO => exact HND.out); (case HB => exact HBD.out); (case hbase => exact below_size HBD.out); (case hl => have := HPL.out; simp only [List.length_cons] at this; omega); intro v9 w9 hn9 hb9 hg9 hat9; obtain ⟨A9, c9, rfl⟩ := Kd.N_slice hn9; have HN9 := Aside0.mk hn9; have HB9 := Aside0.mk hb9; have hw9 : w9.heap[g]? = some (.cells cur 5 (0, 0)) := (hg9.block g (Array.getElem?_eq_some_iff.1 hcur2).1 (Kd.N_ne HND.out hcur2 (by decide))).trans hcur2; clear hn9 hb9 hg9 hat9)
            go_roundw
            case rel => exact ⟨pre ++ [r.take K], r.drop K, _, _, fu - 1, by rw [List.length_drop, show r.length + 1 + 1 - (K + 2) = r.length - K by omega], ⟨by have := HC.out; simp only [List.length_cons, List.length_drop] at this ⊢; omega⟩, ⟨fun x hx => HBY.out x (List.mem_cons_of_mem _ (List.mem_cons_of_mem _ (List.mem_of_mem_drop hx)))⟩, by simp only [List.length_cons, List.length_drop] at hrl ⊢; omega, ⟨left_next HCL.out hcur2 hw9 hk hcc⟩, ⟨by have := HPL.out; simp only [List.length_cons, List.length_append, List.length_nil, List.length_drop] at this ⊢; omega⟩, ⟨by have := HFU.out.1; simp only [List.length_cons, List.length_drop] at this ⊢; omega, HFN.out⟩, ⟨by simpa using HN9.out⟩, HB9⟩
            case measure => simp; omega
        · have hd : decide ((r.length : Int) + 1 + 1 < 2 + a + b * 256) = true := decide_eq_true (by omega)
          have hfin : partsF l0.length l0 = none := by
            rw [HFU.out.2]
            cases fu with
            | zero => simp [partsF]
            | succ fu => simp [partsF, hk]
          have HF := Lib.hid hfin
          clear hfin
          go_wp2
          go_quiet (fail)
          go_wp2
          go_ret2
          rw [HF.out]
          exact ⟨_, by simp, Kd.N_nil _ _ _ _ _, pw_below_drewN HB.out _⟩
def octet_Part.f (l0 : List Int) : Option (List (List Int) × Int) :=
  if l0.length ≤ 1099511627776 ∧ ∀ x ∈ l0, 0 ≤ x ∧ x ≤ 255 then some ((partsF l0.length l0).getD [], if (partsF l0.length l0).isSome then 0 else 10) else none
theorem octet_Part.calls (A0 : Option Addr) (c0 : Nat) (l0 : List Int) (r1 : List (List Int)) (r2 : Int) (w : World) (hr0 : Kd.C (Kd.int .u8) w A0 l0.length l0) (hc0 : l0.length ≤ c0) (h : octet_Part.f l0 = some (r1, r2)) :
    Calls Tryd.prog 44 #[.slice A0 l0.length c0] w fun e w' => ∃ v0_ : Value, e = .returned (.tuple #[v0_, .int .i64 r2]) ∧ Kd.N (Kd.slice 5 (Kd.int .u8)) 22 w' w.heap.size (fun k_ => (w.heap.size ≤ k_)) v0_ r1 ∧ Below w.heap.size w w' := by
  unfold octet_Part.f at h
  by_cases h5 : l0.length ≤ 1099511627776 ∧ ∀ x ∈ l0, 0 ≤ x ∧ x ≤ 255
  · rw [if_pos h5] at h
    simp only [Option.some.injEq, Prod.mk.injEq] at h
    obtain ⟨rfl, rfl⟩ := h
    exact part_loop A0 c0 l0 w hr0 hc0 h5.1 h5.2
  · rw [if_neg h5] at h
    cases h
end Go.Proofs.YtbcijmpkmmcdeaaDoor.PAll
end
section
namespace Go.Proofs.YtbcijmpkmmcdeaaDoor.SF
open Go.RowKit Go.Sx Go.Proofs.YtbcijmpkmmcdeaaDoor.PAll Go.Proofs.YtbcijmpkmmcdeaaDoorW.PrintWords Go.Proofs.YtbcijmpkmmcdeaaDoorW.PrintLast Go.Proofs.YtbcijmpkmmcdeaaDoorW.PrintMore
set_option linter.unusedVariables false
set_option linter.unusedSimpArgs false
theorem rowsF {W : World} {A : Option Addr} {rows : List (List Int)} (h : Kd.C (Kd.slice 5 (Kd.int .u8)) W A rows.length rows) : ∃ (ad : Addr) (PA : Nat → Option Addr) (PC : Nat → Nat), (0 < rows.length → A = some ad) ∧ ∀ j, j < rows.length → W.cell? (ad.add j) = some (.slice (PA j) (rows.getD j []).length (PC j)) ∧ (rows.getD j []).length ≤ PC j ∧ Kd.C (Kd.int .u8) W (PA j) (rows.getD j []).length (rows.getD j []) := by
  by_cases h0 : 0 < rows.length
  · obtain ⟨ad, e, hc⟩ := h.2.2 h0
    have key : ∀ j, ∃ (a : Option Addr) (c : Nat), j < rows.length → W.cell? (ad.add j) = some (.slice a (rows.getD j []).length c) ∧ (rows.getD j []).length ≤ c ∧ Kd.C (Kd.int .u8) W a (rows.getD j []).length (rows.getD j []) := by
      intro j
      by_cases hj : j < rows.length
      · obtain ⟨cs, hl, ⟨a, c, rfl, h1, h2⟩, hcell⟩ := hc j _ (List.getElem?_eq_getElem hj)
        refine ⟨a, c, fun _ => ?_⟩
        have hg : rows.getD j [] = rows[j] := by rw [List.getD_eq_getElem?_getD, List.getElem?_eq_getElem hj]; rfl
        rw [hg]
        have := hcell 0 _ rfl
        simp only [Kd.slice, Nat.mul_one, Nat.add_zero] at this
        exact ⟨this, h1, h2⟩
      · exact ⟨none, 0, fun h => absurd h hj⟩
    refine ⟨ad, fun j => (key j).choose, fun j => (key j).choose_spec.choose, fun _ => e, fun j hj => (key j).choose_spec.choose_spec hj⟩
  · exact ⟨⟨0, 0, none⟩, fun _ => none, fun _ => 0, fun h => absurd h h0, fun j hj => by omega⟩
def formB (rows : List (List Int)) : Bool := decide (rows.length = 3) && (decide ((rows.getD 0 []).length = 8) && (decide ((rows.getD 1 []).length = 8) && decide ((rows.getD 2 []).length % 8 = 0)))
def gN (j : Nat) (rows : List (List Int)) : List Int := match j with
  | 0 => gets 8 1 (rows.getD 0 [])
  | 1 => gets 4 2 (rows.getD 1 [])
  | _ => gets 4 ((rows.getD 2 []).length / 8 * 2) (rows.getD 2 [])
def gBud (rows : List (List Int)) : Int := IntKind.i64.wrap ((gN 1 rows).getD 0 0)
def gMar (rows : List (List Int)) : Int := IntKind.i64.wrap ((gN 1 rows).getD 1 0)
def gSeq (rows : List (List Int)) : Int := (gN 0 rows).getD 0 0
def gP (rows : List (List Int)) (j : Nat) : S51 := ⟨IntKind.i64.wrap ((gN 2 rows).getD (j * 2) 0), IntKind.i64.wrap ((gN 2 rows).getD (j * 2 + 1) 0)⟩
def gPs (rows : List (List Int)) : List S51 := (List.range ((rows.getD 2 []).length / 8)).map (gP rows)
def gOK (rows : List (List Int)) : Bool := formB rows && PChk.chkB (gBud rows) (gMar rows) 0 (gPs rows)
structure JG where
  bud : Int
  mar : Int
  ps : List S51
  seq : Int
  err : Int
def jgot (is : Bool) (rows : List (List Int)) (e : Int) : JG :=
  if is = false then ⟨0, 0, [], 0, 12⟩ else if e ≠ 0 then ⟨0, 0, [], 0, e⟩ else if gOK rows then ⟨gBud rows, gMar rows, gPs rows, gSeq rows, 0⟩ else ⟨0, 0, [], 0, 11⟩
theorem open_calls {A : Option Addr} {c : Nat} {l l1 : List Int} {is : Bool} {k : Nat} {w : World} (hl : Half w) (hr : Kd.C (Kd.int .u8) w A l.length l) (hc : l.length ≤ c) (h : crc_Open.f k l = some (l1, is)) :
    Calls Tryd.prog 43 #[.slice A l.length c] w fun e w' => ∃ i : Option Addr × Nat, (l1.length ≤ i.2 ∧ Kd.C (Kd.int .u8) w' i.1 l1.length l1) ∧ e = .returned (.tuple #[.slice i.1 l1.length i.2, .bool is]) ∧ Below w.heap.size w w' := by
  refine (crc_Open.calls k A c l l1 is w hr hc h hl).mono ?_
  rintro e w' ⟨v, rfl, hR, hb⟩
  obtain ⟨A2, c2, rfl, hc2, hC⟩ := Kd.R_reads hR
  exact ⟨(A2, c2), ⟨hc2, hC⟩, rfl, hb⟩
theorem part_calls {A : Option Addr} {c : Nat} {l : List Int} {rows : List (List Int)} {er : Int} {w : World} (hr : Kd.C (Kd.int .u8) w A l.length l) (hc : l.length ≤ c) (h : octet_Part.f l = some (rows, er)) :
    Calls Tryd.prog 44 #[.slice A l.length c] w fun e w' => ∃ i : Option Addr × Nat, (rows.length ≤ i.2 ∧ Kd.C (Kd.slice 5 (Kd.int .u8)) w' i.1 rows.length rows) ∧ e = .returned (.tuple #[.slice i.1 rows.length i.2, .int .i64 er]) ∧ Below w.heap.size w w' := by
  refine (octet_Part.calls A c l rows er w hr hc h).mono ?_
  rintro e w' ⟨v, rfl, hN, hb⟩
  obtain ⟨A2, c2, rfl⟩ := Kd.N_slice hN
  have := Kd.N_reads' hN
  exact ⟨(A2, c2), ⟨this.2.1, this.2.2⟩, rfl, hb⟩
theorem octget_calls {A : Option Addr} {c : Nat} {l ns : List Int} {sz : Int} {w0 w : World} {hp : List Sx.Item} (hw : HeapOK w0 hp w) (hr : Kd.C (Kd.int .u8) w A l.length l) (hc : l.length ≤ c) (h : octet_Get.f sz l = some (ns, 0)) :
    Calls Tryd.prog 45 #[.int .i64 sz, .slice A l.length c] w fun e w' => ∃ i : Option Addr × Nat, ns.length ≤ i.2 ∧ e = .returned (.tuple #[.slice i.1 ns.length i.2, .int .i64 0]) ∧ HeapOK w0 (.own 0 53 1 (.slice i.1 ns.length i.2) ns.length (nums .u64 ns) :: hp) w' := by
  refine (octet_Get.calls sz A c l ns 0 w hr hc h).mono ?_
  rintro e w' ⟨v, rfl, hR, hb⟩
  obtain ⟨A2, c2, rfl, hc2, hC⟩ := Kd.R_reads hR
  exact ⟨(A2, c2), hc2, rfl, hw.newOwn hb (own_of_R hR)⟩
end Go.Proofs.YtbcijmpkmmcdeaaDoor.SF
end
section
namespace Go.Proofs.YtbcijmpkmmcdeaaDoor.SF
open Go.RowKit Go.Sx Go.Proofs.YtbcijmpkmmcdeaaDoor.PAll Go.Proofs.YtbcijmpkmmcdeaaDoorW.PrintWords Go.Proofs.YtbcijmpkmmcdeaaDoorW.PrintLast Go.Proofs.YtbcijmpkmmcdeaaDoorW.PrintMore
set_option linter.unusedVariables false
set_option linter.unusedSimpArgs false
def pc51 (p : S51) : List Value := [.int .i64 p.f0, .int .i64 p.f1]
theorem flat_drop : ∀ (l : List S51) (j : Nat) (p : S51), l[j]? = some p → ((l.flatMap pc51).drop (j * 2)).take 2 = pc51 p
  | [], j, p, h => by simp at h
  | q :: l, 0, p, h => by cases h; rw [List.flatMap_cons]; rfl
  | q :: l, j + 1, p, h => by
    rw [List.flatMap_cons, show (j + 1) * 2 = 2 + j * 2 by omega, ← List.drop_drop]
    exact flat_drop l j p (by simpa using h)
theorem flat_length : ∀ (l : List S51), (l.flatMap pc51).length = l.length * 2
  | [] => rfl
  | q :: l => by rw [List.flatMap_cons, List.length_append, flat_length l, List.length_cons]; show 2 + _ = _; omega
theorem flat_at {l : List S51} {j i : Nat} {p : S51} {u : Value} (h : l[j]? = some p) (hu : (pc51 p)[i]? = some u) : (l.flatMap pc51)[j * 2 + i]? = some u := by
  have this : (((l.flatMap pc51).drop (j * 2)).take 2)[i]? = (pc51 p)[i]? := congrArg (fun c : List Value => c[i]?) (flat_drop l j p h)
  have hi : i < 2 := (List.getElem?_eq_some_iff.1 hu).1
  rw [List.getElem?_take, if_pos hi, List.getElem?_drop, hu] at this
  exact this
theorem C51_of_own {w : World} {base c : Nat} {A : Option Addr} {l : List S51} (h : w.ownsRow base 51 2 (.slice A l.length c) l.length (l.flatMap pc51)) (hn : l.length ≤ 9223372036854775807) : Kd.C k51 w A l.length l := by
  obtain ⟨ad, hA, hc⟩ := own_cell h (by decide)
  exact ⟨rfl, hn, fun h0 => ⟨ad, hA h0, fun j p hp => ⟨pc51 p, rfl, k51_mk w p, fun i u hu => hc _ u (flat_at hp hu)⟩⟩⟩
theorem R51_of_own {w : World} {base b0 : Nat} {v : Value} {l : List S51} (h : w.ownsRow base 51 2 v l.length (l.flatMap pc51)) (hb : ∀ k, v.ownBlock = some k → b0 ≤ k) : Kd.R k51 51 w b0 (fun _ => True) v l := by
  refine ⟨fun _ _ => trivial, l.flatMap pc51, ?_, flat_length l, fun j p hp => ?_⟩
  · obtain ⟨h1, h2⟩ := h
    refine ⟨h1, ?_⟩
    rcases h2 with h2 | ⟨g, cap, cur, rfl, hg, r⟩
    · exact .inl h2
    · exact .inr ⟨g, cap, cur, rfl, hb g rfl, r⟩
  · rw [show k51.sz = 2 from rfl, flat_drop l j p hp]
    exact ⟨[.int .i64 p.f0], [.int .i64 p.f1], rfl, rfl, rfl⟩
theorem gps_len (rows : List (List Int)) : (List.finRange ((rows.getD 2 []).length / 8)).length = (gPs rows).length := by simp [gPs]
theorem gps_flat (rows : List (List Int)) : ((List.finRange ((rows.getD 2 []).length / 8)).flatMap fun j => ([.int .i64 (gP rows j.val).f0, .int .i64 (gP rows j.val).f1] : List Value)) = (gPs rows).flatMap pc51 := by
  unfold gPs
  rw [List.flatMap_map]
  have : List.range ((rows.getD 2 []).length / 8) = (List.finRange ((rows.getD 2 []).length / 8)).map Fin.val := by
    apply List.ext_getElem <;> simp
  rw [this, List.flatMap_map]
  rfl
theorem own_farB {w0 w : World} {hp : List Sx.Item} {base E sz n b : Nat} {v : Value} {xs : List Value} {i j : Nat} (h : HeapOK w0 hp w) (hi : hp[i]? = some (.own base E sz v n xs)) (hj : hp[j]? = some (.ro (fun k => k < w0.heap.size ∧ k ≠ b) w0)) (hb : ∃ (l : Nat) (cs : List Value) (T : TypeId), hp[l]? = some (.blk b cs T) ∧ l < i) (hij : i < j) : ∀ k, v.ownBlock = some k → w0.heap.size ≤ k := by
  intro k hk
  obtain ⟨l, cs, T, hl, hli⟩ := hb
  obtain ⟨hi1, hi2⟩ := List.getElem?_eq_some_iff.1 hi
  obtain ⟨hj1, hj2⟩ := List.getElem?_eq_some_iff.1 hj
  obtain ⟨hl1, hl2⟩ := List.getElem?_eq_some_iff.1 hl
  have h3 := List.pairwise_iff_getElem.1 h.apart l i hl1 hi1 hli
  rw [hl2, hi2] at h3
  have h3 := h3.l rfl b
  have := List.pairwise_iff_getElem.1 h.apart i j hi1 hj1 hij
  rw [hi2, hj2] at this
  have this := this.l rfl k
  rcases Nat.lt_or_ge k w0.heap.size with h1 | h1
  · exact absurd ⟨h1, fun e => h3 rfl (e ▸ hk)⟩ (this hk)
  · exact h1
end Go.Proofs.YtbcijmpkmmcdeaaDoor.SF
end
