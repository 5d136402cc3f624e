/- MendTells: for every input the law returns true, the table as it is laid. No condition. -/
import Derived.Test.YtbcijmpkmmcdeaaDoorCMTells14
import Derived.Test.YtbcijmpkmmcdeaaDoorCMTells15
import Derived.Test.YtbcijmpkmmcdeaaDoorCMTells9
import Derived.Test.YtbcijmpkmmcdeaaDoorCMTells17
import Derived.Test.YtbcijmpkmmcdeaaDoorCMTells3
import Derived.Test.YtbcijmpkmmcdeaaDoorCMTells4
import Derived.SizedLaws
import Derived.ChangeArms
import Derived.DataElems
import Derived.DataReads
import Derived.ProofKit
import Derived.OpenShut
import Derived.ChangeSame
import Derived.Test.YtbcijmpkmmcdeaaDoorRows
import Derived.LaidLaws
import Derived.JoinedOf
import Derived.ChangeVars
import Derived.Handed
import Derived.Test.YtbcijmpkmmcdeaaDoorTie
import Derived.Test.YtbcijmpkmmcdeaaDoorCards
import Derived.SevenTiedAt
import Derived.WalkKit
import Derived.ShutString
import Derived.ChangeOld
import Derived.Below
section
namespace Go.Proofs.YtbcijmpkmmcdeaaDoor.SF
open Go.RowKit Go.Sx Go.Proofs.YtbcijmpkmmcdeaaDoor.PAll Go.Proofs.YtbcijmpkmmcdeaaDoorW.PrintWords Go.Proofs.YtbcijmpkmmcdeaaDoorW.PrintLast Go.Proofs.YtbcijmpkmmcdeaaDoorW.PrintMore
set_option linter.unusedVariables false
set_option linter.unusedSimpArgs false
set_option maxRecDepth 100000
theorem same_of {base : Nat} (bu ma cr : Int) (qa qb : Gh) (l : List S51) (w : World) (ha : w.ownsRow base 91 2 (.slice qa.1 l.length qa.2) l.length ((l.map to91).flatMap pc91)) (hb : RowR w qb (l.map to91)) (hl : l.length ≤ 100000) :
    Calls Tryd.prog 18 #[.agg #[.int .i64 bu, .int .i64 ma, .int .i64 cr, .slice qa.1 l.length qa.2], .agg #[.int .i64 bu, .int .i64 ma, .int .i64 cr, .slice qb.1 l.length qb.2]] w fun e w' => e = .returned (.bool true) ∧ Below w.heap.size w w' := by
  have h := same_calls bu ma cr qa qb (l.map to91) w (own91 ha hl) hb (by rw [List.length_map]; exact hl)
  rw [List.length_map] at h
  exact h
end Go.Proofs.YtbcijmpkmmcdeaaDoor.SF
end
section
namespace Go.Proofs.YtbcijmpkmmcdeaaDoor.SF
open Go.RowKit Go.Sx Go.Proofs.YtbcijmpkmmcdeaaDoor.PAll Go.Proofs.YtbcijmpkmmcdeaaDoorW.PrintWords Go.Proofs.YtbcijmpkmmcdeaaDoorW.PrintLast Go.Proofs.YtbcijmpkmmcdeaaDoorW.PrintMore
set_option linter.unusedVariables false
set_option linter.unusedSimpArgs false
set_option maxRecDepth 100000
def l28 : List S28 := [⟨1, 6⟩, ⟨2, 5⟩]
theorem k28_blk2 {w : World} {b : Nat} {T : TypeId} {p q : S28} (h : w.heap[b]? = some (.cells #[.int .i64 p.f0, .int .i64 p.f1, .int .i64 q.f0, .int .i64 q.f1] T (0, 0))) : Kd.C k28 w (some ⟨b, 0, none⟩) 2 [p, q] := by
  refine ⟨rfl, by decide, fun _ => ⟨_, rfl, fun j r hr => ?_⟩⟩
  have hj : (j = 0 ∧ r = p) ∨ (j = 1 ∧ r = q) := by
    match j, hr with
    | 0, hr => cases hr; exact .inl ⟨rfl, rfl⟩
    | 1, hr => cases hr; exact .inr ⟨rfl, rfl⟩
    | j + 2, hr => simp at hr
  refine ⟨_, rfl, k28_mk w r, fun i u hu => ?_⟩
  rw [addr_add, cell_of_row w b _ _ T (0, 0) h]
  rcases hj with ⟨rfl, rfl⟩ | ⟨rfl, rfl⟩
  · match i, hu with
    | 0, hu => exact hu
    | 1, hu => exact hu
    | i + 2, hu => cases hu
  · match i, hu with
    | 0, hu => exact hu
    | 1, hu => exact hu
    | i + 2, hu => cases hu
theorem awake17_again : agN (jload [] []).ps (mn (mx 10 0) 1048576) l28 l28.length = ⟨[⟨1, 6⟩], [2]⟩ := by
  have h : jload [] [] = ⟨0, 0, [], 0⟩ := jload_short (by decide) (by decide) (fun x hx => by cases hx) (fun x hx => by cases hx)
  rw [h]
  rfl
theorem eqA51 (d : Nat) (w : World) (x0 y0 x1 y1 : Int) : (Op.equalIn (d + 2) 51 (.agg #[.int .i64 x0, .int .i64 x1]) (.agg #[.int .i64 y0, .int .i64 y1])).run Tryd.prog w = .ok (x0 == y0 && (x1 == y1)) w := by
  refine eqA_of Tryd.underlying51 (by kernel_rfl) ?_
  refine eqf_cons (by rfl) (by go_simp; rfl) (by go_simp; rfl) (by go_simp) ?_
  exact eqf_last (by rfl) (by go_simp; rfl) (by go_simp; rfl) (by go_simp)
theorem eq51 (w : World) (x0 y0 x1 y1 : Int) : (Op.equal 51 (.agg #[.int .i64 x0, .int .i64 x1]) (.agg #[.int .i64 y0, .int .i64 y1])).run Tryd.prog w = .ok (x0 == y0 && (x1 == y1)) w := by
  have h := eqA51 (Op.maxDepth - 2) w x0 y0 x1 y1
  rw [show Op.maxDepth - 2 + 2 = Op.maxDepth from rfl] at h
  simpa [Op.equal] using h
set_option maxHeartbeats 1000000 in
theorem awake17_calls (w : World) (hh : Half w) : Calls Tryd.prog 13 #[] w fun e w' => e = .returned (.bool true) ∧ Below w.heap.size w w' := by
  refine enter (w0 := w) (hp := [old w]) (env := []) Tryd.func13 rfl 39 rfl (by simp) rfl (HeapOK.start _) ?_
  refine wc_seq ?_
  refine wc_region ?_
  refine wl_q (q_assign rfl rfl) rfl rfl (by decide) ?_
  refine wl_nil ?_
  refine fq_then ?_
  refine wc_seq ?_
  refine wc_region ?_
  refine wl_callK (ι := (Gh × Gh)) (fun i => .agg (Jn.cells (⟨[], [], 0, [], false⟩ : Jn) i.1 i.2 (none, 0)).toArray) (fun i w w' => Jn.ok w' (⟨[], [], 0, [], false⟩ : Jn) i.1 i.2 (none, 0)) rfl rfl rfl (by decide) En16 rfl (fun w1 hw1 => FromK (none, 0) (none, 0) [] [] w1 (RowC.none w1 _) (RowC.none w1 _) (by decide) (by decide)) (fun J0 wa_ w_1 _ Hn_ _ hC_ => ?_)
  have hx_ := Hn_.toBelow (by simp)
  have hh := hh.keep hx_
  have hB := hx_
  have hJ_J0 := hC_
  refine wl_q (q_build rfl rfl (built_of Zr28 Pl28 (by simp only [fillL, List.map_cons, List.map_nil, Value.cells, List.getElem?_cons_zero, List.getElem?_cons_succ, List.length_cons, List.length_nil, Nat.reduceAdd, Nat.reduceLeDiff, Nat.le_refl, and_self, and_true, true_and, if_true, Nat.zero_add, spl, List.take_succ_cons, List.take_zero, List.take_nil, List.drop_succ_cons, List.drop_zero, List.drop_nil, List.nil_append, List.cons_append, List.append_nil] <;> rfl))) rfl rfl (by decide) ?_
  refine wl_q (q_build rfl rfl (built_of Zr28 Pl28 (by simp only [fillL, List.map_cons, List.map_nil, Value.cells, List.getElem?_cons_zero, List.getElem?_cons_succ, List.length_cons, List.length_nil, Nat.reduceAdd, Nat.reduceLeDiff, Nat.le_refl, and_self, and_true, true_and, if_true, Nat.zero_add, spl, List.take_succ_cons, List.take_zero, List.take_nil, List.drop_succ_cons, List.drop_zero, List.drop_nil, List.nil_append, List.cons_append, List.append_nil] <;> rfl))) rfl rfl (by decide) ?_
  refine wl_buildSlice rfl rfl rfl (by decide) rfl Tryd.underlying23 (built_parts Sz28 (by decide) Zs28 (by simp [Value.cells]) rfl (by decide) (by decide) rfl) (fun b2 => ?_)
  refine wl_callK (ι := (Gh × Gh)) (fun i => .tuple #[.agg #[.int .i64 (mn (mx 10 0) 1048576), .int .i64 (jload ((⟨[], [], 0, [], false⟩ : Jn)).s0 ((⟨[], [], 0, [], false⟩ : Jn)).s1).mar, .int .i64 0, .slice i.1.1 (agN (jload ((⟨[], [], 0, [], false⟩ : Jn)).s0 ((⟨[], [], 0, [], false⟩ : Jn)).s1).ps (mn (mx 10 0) 1048576) l28 l28.length).out.length i.1.2], .slice i.2.1 (agN (jload ((⟨[], [], 0, [], false⟩ : Jn)).s0 ((⟨[], [], 0, [], false⟩ : Jn)).s1).ps (mn (mx 10 0) 1048576) l28 l28.length).stops.length i.2.2]) (fun i w w' => RowP w' i.1 (agN (jload ((⟨[], [], 0, [], false⟩ : Jn)).s0 ((⟨[], [], 0, [], false⟩ : Jn)).s1).ps (mn (mx 10 0) 1048576) l28 l28.length).out ∧ RowI w' i.2 (agN (jload ((⟨[], [], 0, [], false⟩ : Jn)).s0 ((⟨[], [], 0, [], false⟩ : Jn)).s1).ps (mn (mx 10 0) 1048576) l28 l28.length).stops) rfl rfl rfl (by decide) En15 rfl (fun w1 hw1 => AgainK ((⟨[], [], 0, [], false⟩ : Jn)) J0.1 J0.2 (none, 0) (some ⟨b2, 0, none⟩, 2) l28 10 w1 (hJ_J0.below (hw1.toBelow (by simp))) Bytes_nil Bytes_nil (hh.keep (hw1.toBelow (by simp))) (k28_blk2 (p := ⟨1, 6⟩) (q := ⟨2, 5⟩) (hw1.get (i := 0) rfl)) (Nat.le_refl 2) (by decide)) (fun m wa_ w_3 _ Hn_ _ hC_ => ?_)
  have hx_ := Hn_.toBelow (by simp)
  have fb_b2 : Blk w_3 b2 _ _ := Hn_.get (i := 0) rfl
  have hh := hh.keep hx_
  have hJ_J0 := hJ_J0.below hx_
  have hB := hB.next hx_
  obtain ⟨hP_m, hS_m⟩ := hC_
  refine wl_q (q_move rfl rfl) rfl rfl (by decide) ?_
  refine wl_q (q_extract rfl rfl rfl) rfl rfl (by decide) ?_
  refine wl_q (q_extract rfl rfl rfl) rfl rfl (by decide) ?_
  refine wl_alloc rfl rfl rfl (by decide) Zr32 (fun b4 => ?_)
  refine wl_store (i := 0) rfl rfl rfl rfl rfl rfl Sz32 rfl rfl (by simp) (by simp [Value.oneCell']) (by first | (simp only [List.take_succ_cons, List.take_zero, List.take_nil, List.drop_succ_cons, List.drop_zero, List.drop_nil, List.nil_append, List.cons_append, List.append_nil, List.length_cons, List.length_nil, Nat.reduceAdd, Nat.zero_add]; rfl) | rfl) (by first | (simp only [List.set_cons_zero, List.set_cons_succ]; rfl) | rfl) ?_
  refine wl_q (q_assign rfl rfl) rfl rfl (by decide) ?_
  refine wl_nil ?_
  refine fq_then ?_
  refine wc_seq ?_
  obtain ⟨ad1, hA1, hr1⟩ := hP_m.at (j := 0) (p := ⟨1, 6⟩) (by show (agN (jload [] []).ps (mn (mx 10 0) 1048576) l28 l28.length).out[0]? = _; rw [awake17_again] <;> rfl)
  obtain ⟨ad2, hA2, hr2⟩ := hS_m.at (j := 0) (x := 2) (by show (agN (jload [] []).ps (mn (mx 10 0) 1048576) l28 l28.length).stops[0]? = _; rw [awake17_again] <;> rfl)
  skip
  refine wc_region ?_
  refine wl_q (q_fa (o1 := 3) rfl rfl Fo32_3 rfl) rfl rfl (by decide) ?_
  refine wl_q (q_load rfl rfl Mn30 (reads1 (i := 0) rfl rfl)) rfl rfl (by decide) ?_
  refine wl_q (q_len rfl rfl Tryd.underlying30) rfl rfl (by decide) ?_
  refine wl_q (OpQ.to (q_bin rfl rfl rfl rfl) (congrArg Value.bool (by rw [awake17_again] <;> rfl))) rfl rfl (by decide) ?_
  refine wl_q (q_move rfl rfl) rfl rfl (by decide) ?_
  refine wl_want (b := true) (q_fa (o1 := 3) rfl rfl Fo32_3 rfl) rfl rfl rfl rfl (by decide) ?_
  refine wl_want (b := true) (q_load rfl rfl Mn30 (reads1 (i := 0) rfl rfl)) rfl rfl rfl rfl (by decide) ?_
  refine wl_want (b := true) (q_indexO rfl rfl hA1 rfl Tryd.underlying30 Sz51 (by decide) (by rw [awake17_again]; decide)) rfl rfl rfl rfl (by decide) ?_
  refine wl_want (b := true) (q_loadA rfl rfl Mn51 Sz51 rfl (reads_old (cs := [.int .i64 1, .int .i64 6]) (by simp) hr1)) rfl rfl rfl rfl (by decide) ?_
  refine wl_want (b := true) (q_build rfl rfl (built_of Zr51 Pl51 (by simp only [fillL, List.map_cons, List.map_nil, Value.cells, List.getElem?_cons_zero, List.getElem?_cons_succ, List.length_cons, List.length_nil, Nat.reduceAdd, Nat.reduceLeDiff, Nat.le_refl, and_self, and_true, true_and, if_true, Nat.zero_add, spl, List.take_succ_cons, List.take_zero, List.take_nil, List.drop_succ_cons, List.drop_zero, List.drop_nil, List.nil_append, List.cons_append, List.append_nil] <;> rfl))) rfl rfl rfl rfl (by decide) ?_
  refine wl_want (b := true) (OpQ.to (q_eqAgg (c := true) rfl (.inl rfl) rfl rfl (by kernel_rfl) (fun w1 => eq51 w1 _ _ _ _)) rfl) rfl rfl rfl rfl (by decide) ?_
  refine wl_q (q_pick rfl rfl rfl) rfl rfl (by decide) ?_
  refine wl_q (q_move rfl rfl) rfl rfl (by decide) ?_
  refine wl_want (b := true) (q_move rfl rfl) rfl rfl rfl rfl (by decide) ?_
  refine wl_want (b := true) (q_len rfl rfl Tryd.underlying33) rfl rfl rfl rfl (by decide) ?_
  refine wl_want (b := true) (OpQ.to (q_bin rfl rfl rfl rfl) (congrArg Value.bool (by rw [awake17_again] <;> rfl))) rfl rfl rfl rfl (by decide) ?_
  refine wl_q (q_pick rfl rfl rfl) rfl rfl (by decide) ?_
  refine wl_q (q_move rfl rfl) rfl rfl (by decide) ?_
  refine wl_want (b := true) (q_move rfl rfl) rfl rfl rfl rfl (by decide) ?_
  refine wl_want (b := true) (q_indexO rfl rfl hA2 rfl Tryd.underlying33 Sz3 (by decide) (by rw [awake17_again]; decide)) rfl rfl rfl rfl (by decide) ?_
  refine wl_want (b := true) (q_load rfl rfl Mn3 (reads_old (by simp) (cell_zero hr2))) rfl rfl rfl rfl (by decide) ?_
  refine wl_want (b := true) (OpQ.to (q_bin rfl rfl rfl rfl) (congrArg Value.bool (by rfl))) rfl rfl rfl rfl (by decide) ?_
  refine wl_q (q_pick rfl rfl rfl) rfl rfl (by decide) ?_
  refine wl_q (q_move rfl rfl) rfl rfl (by decide) ?_
  refine wl_want (b := true) (q_fa (o1 := 0) rfl rfl Fo32_0 rfl) rfl rfl rfl rfl (by decide) ?_
  refine wl_want (b := true) (q_load rfl rfl Mn3 (reads1 (i := 0) rfl rfl)) rfl rfl rfl rfl (by decide) ?_
  refine wl_want (b := true) (OpQ.to (q_bin rfl rfl rfl rfl) (congrArg Value.bool (by rfl))) rfl rfl rfl rfl (by decide) ?_
  refine wl_q (q_pick rfl rfl rfl) rfl rfl (by decide) ?_
  refine wl_q (q_assign rfl rfl) rfl rfl (by decide) ?_
  refine wl_nil ?_
  refine fq_then ?_
  refine wc_ret ?_
  refine fq_ret1 rfl rfl (fun w1 H => ?_)
  exact ⟨rfl, hB.next (H.toBelow (by simp))⟩
end Go.Proofs.YtbcijmpkmmcdeaaDoor.SF
end
section
namespace Go.Proofs.YtbcijmpkmmcdeaaDoor.PAll
open Go.RowKit Go.Proofs.YtbcijmpkmmcdeaaDoorW.PrintWords Go.Proofs.YtbcijmpkmmcdeaaDoorW.PrintLast Go.Proofs.YtbcijmpkmmcdeaaDoorW.PrintMore
attribute [local go_sem] max2_int min2_int max_two min_two max_three min_three max_four min_four
set_option linter.unusedVariables false
set_option linter.unusedSimpArgs false
def paternosterlaw17_few.f (l0 : List (S28)) : Option (Bool) := some (decide ((l0.length : Int) ≤ 100))
set_option maxHeartbeats 8000000 in
set_option maxRecDepth 100000 in
theorem paternosterlaw17_few.calls (A0 : Option Addr) (c0 : Nat) (l0 : List (S28)) (r : Bool) (w : World) (hr0 : Kd.C k28 w A0 l0.length l0) (hc0 : l0.length ≤ c0) (h : paternosterlaw17_few.f l0 = some r) :
    Calls Tryd.prog 14 #[.slice A0 l0.length c0] w fun e w' => e = .returned (.bool r) ∧ Drawn0 w w' := by
  have HR0 := Aside0.mk hr0
  have HC0 := Aside0.mk hc0
  clear hr0 hc0
  have H : (some (decide ((l0.length : Int) ≤ 100))) = some r := h
  clear h
  obtain rfl := Option.some.inj H
  go_enter Tryd.func14, Tryd.ntmps14
  go_wp2
  go_ret
  exact ⟨by first | rfl | (simp; done) | (simp [*]; done), by repeat (first | exact Drawn0.refl _ | apply Drawn0.step)⟩
end Go.Proofs.YtbcijmpkmmcdeaaDoor.PAll
end
section
namespace Go.Proofs.YtbcijmpkmmcdeaaDoor.SF
open Go.RowKit Go.Sx Go.Proofs.YtbcijmpkmmcdeaaDoor.PAll Go.Proofs.YtbcijmpkmmcdeaaDoorW.PrintWords Go.Proofs.YtbcijmpkmmcdeaaDoorW.PrintLast Go.Proofs.YtbcijmpkmmcdeaaDoorW.PrintMore
open Go.Proofs.YtbcijmpkmmcdeaaDoor.PChk (sumP sum_ev sumP_bound)
set_option linter.unusedVariables false
set_option linter.unusedSimpArgs false
set_option maxRecDepth 100000
def RowM (w : World) (q : Gh) (l : List S28) : Prop := l.length ≤ q.2 ∧ Kd.C k28 w q.1 l.length l
theorem RowM.below {w w' : World} {q : Gh} {l : List S28} (h : RowM w q l) (hb : Below w.heap.size w w') : RowM w' q l := ⟨h.1, Kd.C_below h.2 hb⟩
theorem RowM.none (w : World) (q : Gh) : RowM w q [] := ⟨Nat.zero_le _, rfl, by decide, fun h => absurd h (by decide)⟩
theorem RowM.at {w : World} {q : Gh} {l : List S28} {j : Nat} {p : S28} (h : RowM w q l) (hp : l[j]? = some p) : ∃ ad, q.1 = some ad ∧ CellsAt w (ad.add (j * 2)) [.int .i64 p.f0, .int .i64 p.f1] := C28_at h.2 hp
theorem few17_calls (q : Gh) (l : List S28) (w : World) (hr : RowM w q l) : Calls Tryd.prog 14 #[.slice q.1 l.length q.2] w fun e w' => e = .returned (.bool (decide (l.length ≤ 100))) ∧ Below w.heap.size w w' := by
  refine (paternosterlaw17_few.calls q.1 q.2 l (decide (l.length ≤ 100)) w hr.2 hr.1 ?_).mono (fun e w' ⟨h1, h2⟩ => ⟨h1, h2.below⟩)
  unfold paternosterlaw17_few.f
  congr 1
  simp
  omega
end Go.Proofs.YtbcijmpkmmcdeaaDoor.SF
end
section
namespace Go.Proofs.YtbcijmpkmmcdeaaDoor.SF
open Go.RowKit Go.Sx Go.Proofs.YtbcijmpkmmcdeaaDoor.PAll Go.Proofs.YtbcijmpkmmcdeaaDoorW.PrintWords Go.Proofs.YtbcijmpkmmcdeaaDoorW.PrintLast Go.Proofs.YtbcijmpkmmcdeaaDoorW.PrintMore
set_option linter.unusedVariables false
set_option linter.unusedSimpArgs false
set_option maxRecDepth 100000
theorem flat_at29 : ∀ {l : List S28} {j i : Nat} {p : S28} {u : Value}, l[j]? = some p → (pc29 p)[i]? = some u → (l.flatMap pc29)[j * 2 + i]? = some u
  | [], j, i, p, u, h, _ => by simp at h
  | q :: l, 0, i, p, u, h, hu => by
    cases h
    have hi : i < 2 := (List.getElem?_eq_some_iff.1 hu).1
    rw [List.flatMap_cons, List.getElem?_append_left (by show 0 * 2 + i < 2; omega), Nat.zero_mul, Nat.zero_add]
    exact hu
  | q :: l, j + 1, i, p, u, h, hu => by
    rw [List.flatMap_cons, show (j + 1) * 2 + i = 2 + (j * 2 + i) by omega, List.getElem?_append_right (by show 2 ≤ 2 + (j * 2 + i); omega)]
    show (l.flatMap pc29)[2 + (j * 2 + i) - 2]? = some u
    rw [Nat.add_sub_cancel_left]
    exact flat_at29 (by simpa using h) hu
theorem own29 {w : World} {base : Nat} {i : Gh} {l : List S28} (h : w.ownsRow base 29 2 (.slice i.1 l.length i.2) l.length (l.flatMap pc29)) (hl : l.length ≤ 100000) : RowW w i l := by
  obtain ⟨ad, hA, hc⟩ := own_cell h (by decide)
  refine ⟨own_cap h, by rw [List.length_map], by omega, fun h0 => ⟨ad, hA h0, fun j p hp => ?_⟩⟩
  rw [List.getElem?_map] at hp
  obtain ⟨x, hx, rfl⟩ := Option.map_eq_some_iff.1 hp
  exact ⟨pc29 x, rfl, k29_mk w (to29 x), fun i u hu => hc _ u (flat_at29 hx hu)⟩
theorem take29 {l : List S28} {j : Nat} {p : S28} (h : l[j]? = some p) : (l.take (j + 1)).flatMap pc29 = (l.take j).flatMap pc29 ++ [.int .i64 p.f0, .int .i64 p.f1] := by
  rw [List.take_add_one, h]
  simp [pc29]
theorem RAgainK {a b : List Int} (hA : Bytes a) (hB : Bytes b) (q : Gh) (l : List S28) (budget : Int) (w : World) (hr : RowW w q l) (hl : l.length ≤ 1000) :
    Calls Tryd.prog 17 #[.agg #[.string (strOfNums a), .string (strOfNums b), .int .i64 (-1), .string ⟨#[]⟩], .slice q.1 l.length q.2, .int .i64 budget] w fun e w' => ∃ i : Gh × Gh, (RowR w' i.1 ((agN (jload a b).ps (mn (mx budget 0) 1048576) l l.length).out.map to91) ∧ RowI w' i.2 (agN (jload a b).ps (mn (mx budget 0) 1048576) l l.length).stops) ∧ e = .returned (.tuple #[.agg #[.int .i64 (mn (mx budget 0) 1048576), .int .i64 (jload a b).mar, .int .i64 0, .slice i.1.1 (agN (jload a b).ps (mn (mx budget 0) 1048576) l l.length).out.length i.1.2], .slice i.2.1 (agN (jload a b).ps (mn (mx budget 0) 1048576) l l.length).stops.length i.2.2]) ∧ Below w.heap.size w w' := by
  have hn := agN_range (jload a b).ps (mn (mx budget 0) 1048576) l l.length
  exact (ragain_calls hA hB (-1) ⟨#[]⟩ q l budget w hr hl).mono (fun e w' ⟨qo, qs, h1, h2⟩ => ⟨(qo, qs), ⟨own91 (h2.get (i := 1) rfl) (by omega), own_cap (h2.get (i := 0) rfl), C_of_own (h2.get (i := 0) rfl) (by omega)⟩, h1, h2.toBelow (by simp)⟩)
set_option maxHeartbeats 2000000 in
theorem mtells_calls (qa qb q : Gh) (a b : List Int) (l : List S28) (budget : Int) (w : World) (ha : RowC w qa a) (hb : RowC w qb b) (hr : RowM w q l) (ha0 : ∀ x ∈ a, 0 ≤ x ∧ x ≤ 255) (hb0 : ∀ x ∈ b, 0 ≤ x ∧ x ≤ 255) (hh : Half w) :
    Calls Tryd.prog 3 #[.slice qa.1 a.length qa.2, .slice qb.1 b.length qb.2, .slice q.1 l.length q.2, .int .i64 budget] w fun e w' => e = .returned (.bool true) ∧ Below w.heap.size w w' := by
  refine enter (w0 := w) (hp := [old w]) (env := [(0, .slice qa.1 a.length qa.2), (1, .slice qb.1 b.length qb.2), (2, .slice q.1 l.length q.2), (3, .int .i64 budget)]) Tryd.func3 rfl 102 rfl (by simp) rfl (HeapOK.start _) ?_
  refine wc_seq ?_
  refine wc_region ?_
  refine wl_q (q_assign rfl rfl) rfl rfl (by decide) ?_
  refine wl_nil ?_
  refine fq_then ?_
  refine wc_seq ?_
  refine wc_region ?_
  refine wl_q (q_call rfl En13 rfl (fun w1 hw1 => awake17_calls w1 (hh.keep (hw1.toBelow (by simp))))) rfl rfl (by decide) ?_
  refine wl_q (q_assign rfl rfl) rfl rfl (by decide) ?_
  refine wl_nil ?_
  refine fq_then ?_
  refine wc_seq ?_
  refine wc_seq ?_
  refine wc_region ?_
  refine wl_q (q_move rfl rfl) rfl rfl (by decide) ?_
  refine wl_q (q_not rfl rfl) rfl rfl (by decide) ?_
  refine wl_nil ?_
  refine fq_then ?_
  refine wc_false rfl ?_
  refine wc_skip ?_
  refine fq_then ?_
  refine wc_seq ?_
  refine wc_region ?_
  refine wl_q (q_move rfl rfl) rfl rfl (by decide) ?_
  refine wl_q (q_call rfl En14 rfl (fun w1 hw1 => few17_calls q l w1 (hr.below (hw1.toBelow (by simp))))) rfl rfl (by decide) ?_
  refine wl_q (q_assign rfl rfl) rfl rfl (by decide) ?_
  refine wl_nil ?_
  refine fq_then ?_
  refine wc_seq ?_
  refine wc_seq ?_
  refine wc_region ?_
  refine wl_q (q_move rfl rfl) rfl rfl (by decide) ?_
  refine wl_q (q_not rfl rfl) rfl rfl (by decide) ?_
  refine wl_q (q_move rfl rfl) rfl rfl (by decide) ?_
  refine wl_split (t := 25) rfl (fun h25 => ?_) (fun h25 => ?_)
  · skip
    have q25 := h25
    try simp only [decide_eq_true_eq, decide_eq_false_iff_not, beq_iff_eq, beq_eq_false_iff_ne, bne_iff_ne, ne_eq, bne_eq_false_iff_eq, Int.not_lt, Int.not_le] at q25
    refine wl_skip (b := true) rfl rfl rfl rfl (by decide) ?_
    refine wl_skip (b := true) rfl rfl rfl rfl (by decide) ?_
    refine wl_skip (b := true) rfl rfl rfl rfl (by decide) ?_
    refine wl_q (q_pick rfl rfl rfl) rfl rfl (by decide) ?_
    refine wl_q (q_move rfl rfl) rfl rfl (by decide) ?_
    refine wl_skip (b := true) rfl rfl rfl rfl (by decide) ?_
    refine wl_skip (b := true) rfl rfl rfl rfl (by decide) ?_
    refine wl_skip (b := true) rfl rfl rfl rfl (by decide) ?_
    refine wl_q (q_pick rfl rfl rfl) rfl rfl (by decide) ?_
    refine wl_nil ?_
    refine fq_then ?_
    refine wc_true rfl ?_
    refine wc_seq ?_
    refine wc_region ?_
    refine wl_q (q_assign rfl rfl) rfl rfl (by decide) ?_
    refine wl_nil ?_
    refine fq_then ?_
    refine wc_ret ?_
    refine fq_then_ret ?_
    refine fq_ret1 rfl rfl (fun w1 H => ?_)
    exact ⟨rfl, (by first | exact hB.next (H.toBelow (by simp)) | exact H.toBelow (by simp))⟩
  · skip
    have q25 := h25
    try simp only [decide_eq_true_eq, decide_eq_false_iff_not, beq_iff_eq, beq_eq_false_iff_ne, bne_iff_ne, ne_eq, bne_eq_false_iff_eq, Int.not_lt, Int.not_le] at q25
    refine wl_want (b := false) (q_move rfl rfl) rfl rfl rfl rfl (by decide) ?_
    refine wl_want (b := false) (q_len rfl rfl Tryd.underlying22) rfl rfl rfl rfl (by decide) ?_
    refine wl_want (b := false) (q_bin rfl rfl rfl rfl) rfl rfl rfl rfl (by decide) ?_
    refine wl_q (q_pick rfl rfl rfl) rfl rfl (by decide) ?_
    refine wl_q (q_move rfl rfl) rfl rfl (by decide) ?_
    refine wl_split (t := 30) rfl (fun h30 => ?_) (fun h30 => ?_)
    · skip
      have q30 := h30
      try simp only [decide_eq_true_eq, decide_eq_false_iff_not, beq_iff_eq, beq_eq_false_iff_ne, bne_iff_ne, ne_eq, bne_eq_false_iff_eq, Int.not_lt, Int.not_le] at q30
      refine wl_skip (b := true) rfl rfl rfl rfl (by decide) ?_
      refine wl_skip (b := true) rfl rfl rfl rfl (by decide) ?_
      refine wl_skip (b := true) rfl rfl rfl rfl (by decide) ?_
      refine wl_q (q_pick rfl rfl rfl) rfl rfl (by decide) ?_
      refine wl_nil ?_
      refine fq_then ?_
      refine wc_true rfl ?_
      refine wc_seq ?_
      refine wc_region ?_
      refine wl_q (q_assign rfl rfl) rfl rfl (by decide) ?_
      refine wl_nil ?_
      refine fq_then ?_
      refine wc_ret ?_
      refine fq_then_ret ?_
      refine fq_ret1 rfl rfl (fun w1 H => ?_)
      exact ⟨rfl, (by first | exact hB.next (H.toBelow (by simp)) | exact H.toBelow (by simp))⟩
    · skip
      have q30 := h30
      try simp only [decide_eq_true_eq, decide_eq_false_iff_not, beq_iff_eq, beq_eq_false_iff_ne, bne_iff_ne, ne_eq, bne_eq_false_iff_eq, Int.not_lt, Int.not_le] at q30
      refine wl_want (b := false) (q_move rfl rfl) rfl rfl rfl rfl (by decide) ?_
      refine wl_want (b := false) (q_len rfl rfl Tryd.underlying22) rfl rfl rfl rfl (by decide) ?_
      refine wl_want (b := false) (q_bin rfl rfl rfl rfl) rfl rfl rfl rfl (by decide) ?_
      refine wl_q (q_pick rfl rfl rfl) rfl rfl (by decide) ?_
      refine wl_nil ?_
      refine fq_then ?_
      refine wc_cond rfl (fun h34 => ?_) (fun h34 => ?_)
      · skip
        have q34 := h34
        try simp only [decide_eq_true_eq, decide_eq_false_iff_not, beq_iff_eq, beq_eq_false_iff_ne, bne_iff_ne, ne_eq, bne_eq_false_iff_eq, Int.not_lt, Int.not_le] at q34
        refine wc_seq ?_
        refine wc_region ?_
        refine wl_q (q_assign rfl rfl) rfl rfl (by decide) ?_
        refine wl_nil ?_
        refine fq_then ?_
        refine wc_ret ?_
        refine fq_then_ret ?_
        refine fq_ret1 rfl rfl (fun w1 H => ?_)
        exact ⟨rfl, (by first | exact hB.next (H.toBelow (by simp)) | exact H.toBelow (by simp))⟩
      · skip
        have q34 := h34
        try simp only [decide_eq_true_eq, decide_eq_false_iff_not, beq_iff_eq, beq_eq_false_iff_ne, bne_iff_ne, ne_eq, bne_eq_false_iff_eq, Int.not_lt, Int.not_le] at q34
        have hll : l.length ≤ 100 := by simpa using h25
        have hal : a.length ≤ 800 := by simp at h30; omega
        have hbl : b.length ≤ 800 := by simp at h34; omega
        have hBa : Bytes a := ⟨by omega, ha0⟩
        have hBb : Bytes b := ⟨by omega, hb0⟩
        have hps := jload_len hBa hBb
        have hag := agN_range (jload a b).ps (mn (mx budget 0) 1048576) l l.length
        refine wc_skip ?_
        refine fq_then ?_
        refine wc_seq ?_
        refine wc_region ?_
        refine wl_q (q_assign rfl rfl) rfl rfl (by decide) ?_
        refine wl_nil ?_
        refine fq_then ?_
        refine wc_seq ?_
        refine wc_seq ?_
        refine wc_region ?_
        refine wl_q (q_assign rfl rfl) rfl rfl (by decide) ?_
        refine wl_nil ?_
        refine fq_then ?_
        refine wc_block ?_
        refine wc_own (E := 29) (sz := 2) ?_
        refine wc_loop (ι := (Nat × Gh)) (fun i => [(0, .slice qa.1 a.length qa.2), (1, .slice qb.1 b.length qb.2), (2, .slice q.1 l.length q.2), (3, .int .i64 budget), (11, .slice i.2.1 i.1 i.2.2), (12, .int .i64 (i.1 : Nat))]) (fun i => [.own 0 29 2 (.slice i.2.1 i.1 i.2.2) i.1 ((l.take i.1).flatMap pc29), old w]) (fun i => i.1 ≤ l.length) (fun i => l.length - i.1) (0, (none, 0)) (Nat.zero_le _) ⟨List.forall_mem_cons.2 ⟨rfl, List.forall_mem_cons.2 ⟨rfl, List.forall_mem_cons.2 ⟨rfl, List.forall_mem_cons.2 ⟨rfl, List.forall_mem_cons.2 ⟨rfl, List.forall_mem_cons.2 ⟨rfl, fun _ h => (by cases h)⟩⟩⟩⟩⟩⟩, List.Sublist.refl _⟩ ?_
        rintro ⟨j, qw⟩ hj
        simp only at hj
        dsimp only
        refine wc_seq ?_
        refine wc_seq ?_
        refine wc_region ?_
        refine wl_q (q_move rfl rfl) rfl rfl (by decide) ?_
        refine wl_q (q_move rfl rfl) rfl rfl (by decide) ?_
        refine wl_q (q_len rfl rfl Tryd.underlying23) rfl rfl (by decide) ?_
        refine wl_q (q_bin rfl rfl rfl rfl) rfl rfl (by decide) ?_
        refine wl_nil ?_
        refine fq_then ?_
        refine wc_cond rfl (fun h38 => ?_) (fun h38 => ?_)
        · skip
          have q38 := h38
          try simp only [decide_eq_true_eq, decide_eq_false_iff_not, beq_iff_eq, beq_eq_false_iff_ne, bne_iff_ne, ne_eq, bne_eq_false_iff_eq, Int.not_lt, Int.not_le] at q38
          obtain ⟨p, hp⟩ : ∃ p, l[j]? = some p := ⟨_, List.getElem?_eq_getElem (by omega)⟩
          obtain ⟨ad, hA, hra⟩ := hr.at hp
          have wj : IntKind.i64.wrap ((j : Int) + 1) = ((j + 1 : Nat) : Int) := wrap_nat (by omega)
          refine wc_skip ?_
          refine fq_then ?_
          refine wc_seq ?_
          refine wc_block ?_
          refine wc_any Fol (any_drawG (ι := Gh) 15 1 [(12, fun X => [Sx.Item.blk (X 12).2 [Value.int .i64 p.f0, .int .i64 p.f1] 29]), (13, fun X => [Sx.Item.own 0 29 2 (.slice (X 13).1 (j + 1) (X 13).2) (j + 1) ((l.take j).flatMap pc29 ++ [Value.int .i64 p.f0, .int .i64 p.f1])])] [⟨[], [], []⟩, ⟨[], [], []⟩, ⟨[], [], []⟩, ⟨[], [], []⟩, ⟨[], [], []⟩, ⟨[], [15], []⟩, ⟨[], [], []⟩, ⟨[], [], []⟩, ⟨[], [], []⟩, ⟨[], [], []⟩, ⟨[], [15], []⟩, ⟨[], [], []⟩, ⟨[], [], []⟩, ⟨[12, 15], [], [12]⟩, ⟨[], [], [12, 13]⟩] (by kernel_rfl) (ChainG.yield [] [] (fun X => q_move rfl rfl) rfl rfl (fun _ => rfl) (fun _ _ => rfl) (fun X Y h0 h => ⟨by first | rfl | simp only [h0], by first | rfl | simp only [h0]⟩) (ChainG.yield [] [] (fun X => q_move rfl rfl) rfl rfl (fun _ => rfl) (fun _ _ => rfl) (fun X Y h0 h => ⟨by first | rfl | simp only [h0], by first | rfl | simp only [h0]⟩) (ChainG.yield [] [] (fun X => q_move rfl rfl) rfl rfl (fun _ => rfl) (fun _ _ => rfl) (fun X Y h0 h => ⟨by first | rfl | simp only [h0], by first | rfl | simp only [h0]⟩) (ChainG.yield [] [] (fun X => q_indexO rfl rfl hA rfl Tryd.underlying23 Sz28 (by omega) (by omega)) rfl rfl (fun _ => rfl) (fun _ _ => rfl) (fun X Y h0 h => ⟨by first | rfl | simp only [h0], by first | rfl | simp only [h0]⟩) (ChainG.yield [] [] (fun X => q_fax rfl rfl Fo28_0 rfl) rfl rfl (fun _ => rfl) (fun _ _ => rfl) (fun X Y h0 h => ⟨by first | rfl | simp only [h0], by first | rfl | simp only [h0]⟩) (ChainG.yield [15] [] (fun X => q_load rfl rfl Mn3 (reads_old (by simp) (cell_zero (hra.one (j := 0) rfl)))) rfl rfl (fun _ => rfl) (fun _ _ => rfl) (fun X Y h0 h => ⟨by first | rfl | simp only [h0], by first | rfl | simp only [h0]⟩) (ChainG.yield [] [] (fun X => q_move rfl rfl) rfl rfl (fun _ => rfl) (fun _ _ => rfl) (fun X Y h0 h => ⟨by first | rfl | simp only [h0], by first | rfl | simp only [h0]⟩) (ChainG.yield [] [] (fun X => q_move rfl rfl) rfl rfl (fun _ => rfl) (fun _ _ => rfl) (fun X Y h0 h => ⟨by first | rfl | simp only [h0], by first | rfl | simp only [h0]⟩) (ChainG.yield [] [] (fun X => q_indexO rfl rfl hA rfl Tryd.underlying23 Sz28 (by omega) (by omega)) rfl rfl (fun _ => rfl) (fun _ _ => rfl) (fun X Y h0 h => ⟨by first | rfl | simp only [h0], by first | rfl | simp only [h0]⟩) (ChainG.yield [] [] (fun X => q_fax rfl rfl Fo28_1 rfl) rfl rfl (fun _ => rfl) (fun _ _ => rfl) (fun X Y h0 h => ⟨by first | rfl | simp only [h0], by first | rfl | simp only [h0]⟩) (ChainG.yield [15] [] (fun X => q_load rfl rfl Mn3 (reads_old (by simp) (cell_zero (hra.one (j := 1) rfl)))) rfl rfl (fun _ => rfl) (fun _ _ => rfl) (fun X Y h0 h => ⟨by first | rfl | simp only [h0], by first | rfl | simp only [h0]⟩) (ChainG.yield [] [] (fun X => q_build rfl rfl (built_of Zr29 Pl29 (by simp only [fillL, List.map_cons, List.map_nil, Value.cells, List.getElem?_cons_zero, List.getElem?_cons_succ, List.length_cons, List.length_nil, Nat.reduceAdd, Nat.reduceLeDiff, Nat.le_refl, and_self, and_true, true_and, if_true, Nat.zero_add, spl, List.take_succ_cons, List.take_zero, List.take_nil, List.drop_succ_cons, List.drop_zero, List.drop_nil, List.nil_append, List.cons_append, List.append_nil] <;> rfl))) rfl rfl (fun _ => rfl) (fun _ _ => rfl) (fun X Y h0 h => ⟨by first | rfl | simp only [h0], by first | rfl | simp only [h0]⟩) (ChainG.mk (fun b => .slice (some ⟨b, 0, none⟩) 1 1) [] (fun X => om_buildSlice rfl rfl Tryd.underlying26 (built_one Sz29 (by decide) Zs29 (by decide) rfl rfl)) rfl rfl (fun _ => rfl) (fun _ _ => rfl) (fun X Y h0 h => ⟨by first | rfl | simp only [h0], by first | rfl | (show ([Sx.Item.blk (X 12).2 [Value.int .i64 p.f0, .int .i64 p.f1] 29] : List Sx.Item) = [Sx.Item.blk (Y 12).2 [Value.int .i64 p.f0, .int .i64 p.f1] 29]; simp only [h0])⟩) (ChainG.ope (fun (X : Nat → Gh) => .slice (X 13).1 (j + 1) (X 13).2) [12, 15] [12] (fun X => (oe_appendR (i := 1) (m := 1) (news := [Value.int .i64 p.f0, .int .i64 p.f1]) rfl Tryd.underlying26 Ap29 (by decide) rfl rfl rfl (fun R w1 hw1 _ => ⟨_, rfl, fun k u hu => by (have hg := readsAll (w0 := w) (hp := _) (i := 0) (cs := [Value.int .i64 p.f0, .int .i64 p.f1]) (T := 29) rfl w1 hw1 k u hu; exact hg)⟩) rfl (by simp [Value.oneCell']) (by unfold maxLen; omega) (by omega)).less (fun _ => List.sublist_cons_self _ _)) rfl rfl (fun X Y h0 h => ⟨by first | rfl | (show (.slice (X 13).1 (j + 1) (X 13).2 : Value) = .slice (Y 13).1 (j + 1) (Y 13).2; simp only [h0, h 12 (by decide)]), by first | rfl | (show ([Sx.Item.own 0 29 2 (.slice (X 13).1 (j + 1) (X 13).2) (j + 1) ((l.take j).flatMap pc29 ++ [Value.int .i64 p.f0, .int .i64 p.f1])] : List Sx.Item) = [Sx.Item.own 0 29 2 (.slice (Y 13).1 (j + 1) (Y 13).2) (j + 1) ((l.take j).flatMap pc29 ++ [Value.int .i64 p.f0, .int .i64 p.f1])]; simp only [h0, h 12 (by decide)])⟩) (ChainG.yield [] [12, 13] (fun X => q_assign rfl rfl) rfl rfl (fun _ => rfl) (fun _ _ => rfl) (fun X Y h0 h => ⟨by first | rfl | simp only [h0, h 12 (by decide), h 13 (by decide)], by first | rfl | simp only [h0, h 12 (by decide), h 13 (by decide)]⟩) (ChainG.nil _ _)))))))))))))))) rfl rfl (fun X => [_, _]) (fun _ => rfl) (fun X => ?_))
          generalize X 13 = qt
          refine wl_nil ?_
          refine fq_block ?_
          refine fq_then ?_
          refine wc_region ?_
          refine wl_q (q_move rfl rfl) rfl rfl (by decide) ?_
          refine wl_q (q_bin rfl rfl rfl rfl) rfl rfl (by decide) ?_
          refine wl_q (q_assign rfl rfl) rfl rfl (by decide) ?_
          refine wl_nil ?_
          rw [← take29 hp]
          refine fq_next (j + 1, qt) (show j + 1 ≤ l.length by omega) (show l.length - (j + 1) < l.length - j by omega) ⟨List.forall_mem_cons.2 ⟨rfl, List.forall_mem_cons.2 ⟨rfl, List.forall_mem_cons.2 ⟨rfl, List.forall_mem_cons.2 ⟨rfl, List.forall_mem_cons.2 ⟨rfl, List.forall_mem_cons.2 ⟨(show some (Value.int .i64 (IntKind.i64.wrap ((j : Int) + 1))) = some (Value.int .i64 ((j + 1 : Nat) : Int)) from by rw [wj]), fun _ h => (by cases h)⟩⟩⟩⟩⟩⟩, List.Sublist.refl _⟩
        · skip
          have q38 := h38
          try simp only [decide_eq_true_eq, decide_eq_false_iff_not, beq_iff_eq, beq_eq_false_iff_ne, bne_iff_ne, ne_eq, bne_eq_false_iff_eq, Int.not_lt, Int.not_le] at q38
          obtain rfl : j = l.length := by omega
          refine wc_exit ?_
          refine fq_then_exit ?_
          refine fq_then_exit ?_
          refine fq_block_hit ?_
          refine fq_then ?_
          refine wc_seq ?_
          refine wc_ground (fun w_1 Hn_ => ?_)
          rw [List.take_length] at Hn_
          have hW : RowW w_1 qw l := own29 (Hn_.get (i := 0) rfl) (by omega)
          have hx_ := Hn_.toBelow (by simp)
          have hh := hh.keep hx_
          have hr := hr.below hx_
          have ha := ha.below hx_
          have hb := hb.below hx_
          have hB := hx_
          skip
          refine wc_region ?_
          refine wl_q (q_move rfl rfl) rfl rfl (by decide) ?_
          refine wl_q (q_move rfl rfl) rfl rfl (by decide) ?_
          refine wl_callK (ι := (Gh × Gh)) (fun i => .agg (Jn.cells (⟨a, b, 0, [], false⟩ : Jn) i.1 i.2 (none, 0)).toArray) (fun i w w' => Jn.ok w' (⟨a, b, 0, [], false⟩ : Jn) i.1 i.2 (none, 0)) rfl rfl rfl (by decide) En16 rfl (fun w1 hw1 => FromK qa qb a b w1 (ha.below (hw1.toBelow (by simp))) (hb.below (hw1.toBelow (by simp))) (by omega) (by omega)) (fun J0 wa_ w_2 _ Hn_ _ hC_ => ?_)
          have hx_ := Hn_.toBelow (by simp)
          have hh := hh.keep hx_
          have hr := hr.below hx_
          have ha := ha.below hx_
          have hb := hb.below hx_
          have hW := hW.below hx_
          have hB := hB.next hx_
          have hJ_J0 := hC_
          refine wl_q (q_move rfl rfl) rfl rfl (by decide) ?_
          refine wl_q (q_move rfl rfl) rfl rfl (by decide) ?_
          refine wl_callK (ι := (Gh × Gh)) (fun i => .tuple #[.agg #[.int .i64 (mn (mx budget 0) 1048576), .int .i64 (jload ((⟨a, b, 0, [], false⟩ : Jn)).s0 ((⟨a, b, 0, [], false⟩ : Jn)).s1).mar, .int .i64 0, .slice i.1.1 (agN (jload ((⟨a, b, 0, [], false⟩ : Jn)).s0 ((⟨a, b, 0, [], false⟩ : Jn)).s1).ps (mn (mx budget 0) 1048576) l l.length).out.length i.1.2], .slice i.2.1 (agN (jload ((⟨a, b, 0, [], false⟩ : Jn)).s0 ((⟨a, b, 0, [], false⟩ : Jn)).s1).ps (mn (mx budget 0) 1048576) l l.length).stops.length i.2.2]) (fun i w w' => RowP w' i.1 (agN (jload ((⟨a, b, 0, [], false⟩ : Jn)).s0 ((⟨a, b, 0, [], false⟩ : Jn)).s1).ps (mn (mx budget 0) 1048576) l l.length).out ∧ RowI w' i.2 (agN (jload ((⟨a, b, 0, [], false⟩ : Jn)).s0 ((⟨a, b, 0, [], false⟩ : Jn)).s1).ps (mn (mx budget 0) 1048576) l l.length).stops) rfl rfl rfl (by decide) En15 rfl (fun w1 hw1 => AgainK ((⟨a, b, 0, [], false⟩ : Jn)) J0.1 J0.2 (none, 0) q l budget w1 (hJ_J0.below (hw1.toBelow (by simp))) hBa hBb (hh.keep (hw1.toBelow (by simp))) (hr.below (hw1.toBelow (by simp))).2 hr.1 (by omega)) (fun x wa_ w_3 _ Hn_ _ hC_ => ?_)
          have hx_ := Hn_.toBelow (by simp)
          have hh := hh.keep hx_
          have hr := hr.below hx_
          have ha := ha.below hx_
          have hb := hb.below hx_
          have hW := hW.below hx_
          have hJ_J0 := hJ_J0.below hx_
          have hB := hB.next hx_
          obtain ⟨hP_x, hS_x⟩ := hC_
          refine wl_q (q_move rfl rfl) rfl rfl (by decide) ?_
          refine wl_q (q_extract rfl rfl rfl) rfl rfl (by decide) ?_
          refine wl_q (q_extract rfl rfl rfl) rfl rfl (by decide) ?_
          refine wl_alloc rfl rfl rfl (by decide) Zr32 (fun b4 => ?_)
          refine wl_store (i := 0) rfl rfl rfl rfl rfl rfl Sz32 rfl rfl (by simp) (by simp [Value.oneCell']) (by first | (simp only [List.take_succ_cons, List.take_zero, List.take_nil, List.drop_succ_cons, List.drop_zero, List.drop_nil, List.nil_append, List.cons_append, List.append_nil, List.length_cons, List.length_nil, Nat.reduceAdd, Nat.zero_add]; rfl) | rfl) (by first | (simp only [List.set_cons_zero, List.set_cons_succ]; rfl) | rfl) ?_
          refine wl_q (q_assign rfl rfl) rfl rfl (by decide) ?_
          refine wl_nil ?_
          refine fq_then ?_
          refine wc_seq ?_
          refine wc_region ?_
          refine wl_q (q_move rfl rfl) rfl rfl (by decide) ?_
          refine wl_q (q_bytesStr rfl rfl Tryd.underlying22 Tryd.underlying5 Tryd.underlying9 (fun w1 hw1 => (ha.below (hw1.toBelow (by simp))).2)) rfl rfl (by decide) ?_
          refine wl_q (q_move rfl rfl) rfl rfl (by decide) ?_
          refine wl_q (q_bytesStr rfl rfl Tryd.underlying22 Tryd.underlying5 Tryd.underlying9 (fun w1 hw1 => (hb.below (hw1.toBelow (by simp))).2)) rfl rfl (by decide) ?_
          refine wl_q (q_build rfl rfl (built_of Zr46 Pl46 (by simp only [fillL, List.map_cons, List.map_nil, Value.cells, List.getElem?_cons_zero, List.getElem?_cons_succ, List.length_cons, List.length_nil, Nat.reduceAdd, Nat.reduceLeDiff, Nat.le_refl, and_self, and_true, true_and, if_true, Nat.zero_add, spl, List.take_succ_cons, List.take_zero, List.take_nil, List.drop_succ_cons, List.drop_zero, List.drop_nil, List.nil_append, List.cons_append, List.append_nil] <;> rfl))) rfl rfl (by decide) ?_
          refine wl_q (q_move rfl rfl) rfl rfl (by decide) ?_
          refine wl_q (q_move rfl rfl) rfl rfl (by decide) ?_
          refine wl_callK (ι := (Gh × Gh)) (fun i => .tuple #[.agg #[.int .i64 (mn (mx budget 0) 1048576), .int .i64 (jload a b).mar, .int .i64 0, .slice i.1.1 (agN (jload a b).ps (mn (mx budget 0) 1048576) l l.length).out.length i.1.2], .slice i.2.1 (agN (jload a b).ps (mn (mx budget 0) 1048576) l l.length).stops.length i.2.2]) (fun i w w' => RowR w' i.1 ((agN (jload a b).ps (mn (mx budget 0) 1048576) l l.length).out.map to91) ∧ RowI w' i.2 (agN (jload a b).ps (mn (mx budget 0) 1048576) l l.length).stops) rfl rfl rfl (by decide) En17 rfl (fun w1 hw1 => RAgainK hBa hBb qw l budget w1 (hW.below (hw1.toBelow (by simp))) (by omega)) (fun y wa_ w_5 _ Hn_ _ hC_ => ?_)
          have hx_ := Hn_.toBelow (by simp)
          have fb_b4 : Blk w_5 b4 _ _ := Hn_.get (i := 0) rfl
          have hh := hh.keep hx_
          have hr := hr.below hx_
          have ha := ha.below hx_
          have hb := hb.below hx_
          have hW := hW.below hx_
          have hJ_J0 := hJ_J0.below hx_
          have hP_x := hP_x.below hx_
          have hS_x := hS_x.below hx_
          have hB := hB.next hx_
          obtain ⟨hQ_y, hS_y⟩ := hC_
          refine wl_q (q_move rfl rfl) rfl rfl (by decide) ?_
          refine wl_q (q_extract rfl rfl rfl) rfl rfl (by decide) ?_
          refine wl_q (q_extract rfl rfl rfl) rfl rfl (by decide) ?_
          refine wl_alloc rfl rfl rfl (by decide) Zr42 (fun b6 => ?_)
          refine wl_store (i := 0) rfl rfl rfl rfl rfl rfl Sz42 rfl rfl (by simp) (by simp [Value.oneCell']) (by first | (simp only [List.take_succ_cons, List.take_zero, List.take_nil, List.drop_succ_cons, List.drop_zero, List.drop_nil, List.nil_append, List.cons_append, List.append_nil, List.length_cons, List.length_nil, Nat.reduceAdd, Nat.zero_add]; rfl) | rfl) (by first | (simp only [List.set_cons_zero, List.set_cons_succ]; rfl) | rfl) ?_
          refine wl_q (q_assign rfl rfl) rfl rfl (by decide) ?_
          refine wl_nil ?_
          refine fq_then ?_
          refine wc_seq ?_
          refine wc_seq ?_
          refine wc_any Fol (any_drawG (ι := Gh) 12 0 [(1, fun X => [Sx.Item.own 0 91 2 (.slice (X 1).1 (agN (jload a b).ps (mn (mx budget 0) 1048576) l l.length).out.length (X 1).2) (agN (jload a b).ps (mn (mx budget 0) 1048576) l l.length).out.length (((agN (jload a b).ps (mn (mx budget 0) 1048576) l l.length).out.map to91).flatMap pc91)]), (3, fun X => [Sx.Item.own 0 91 2 (.slice (X 1).1 (agN (jload a b).ps (mn (mx budget 0) 1048576) l l.length).out.length (X 1).2) (agN (jload a b).ps (mn (mx budget 0) 1048576) l l.length).out.length (((agN (jload a b).ps (mn (mx budget 0) 1048576) l l.length).out.map to91).flatMap pc91)])] [⟨[], [], []⟩, ⟨[], [], []⟩, ⟨[], [], []⟩, ⟨[1], [], [1]⟩, ⟨[], [], [1, 3]⟩, ⟨[], [], [1, 3]⟩, ⟨[], [], [1, 3]⟩, ⟨[], [3], [1, 3]⟩, ⟨[], [], [1, 3]⟩, ⟨[], [3], [1, 3]⟩, ⟨[], [], [1, 3]⟩, ⟨[], [], [1, 3]⟩] (by kernel_rfl) (ChainG.yield [] [] (fun X => q_loadA rfl rfl Mn32 Sz32 rfl (reads_blkA (by simp) fb_b4)) rfl rfl (fun _ => rfl) (fun _ _ => rfl) (fun X Y h0 h => ⟨by first | rfl | simp only [h0], by first | rfl | simp only [h0]⟩) (ChainG.ope (fun (X : Nat → Gh) => .agg #[.int .i64 (mn (mx budget 0) 1048576), .int .i64 (jload a b).mar, .int .i64 0, .slice (X 1).1 (agN (jload a b).ps (mn (mx budget 0) 1048576) l l.length).out.length (X 1).2]) [] [] (fun X => oe_call rfl En19 rfl (fun R w1 hw1 => (of17_calls (mn (mx budget 0) 1048576) (jload a b).mar 0 x.1 (agN (jload a b).ps (mn (mx budget 0) 1048576) l l.length).out w1 (hP_x.below (hw1.toBelow (by simp))) (by omega)).mono (fun e w' ⟨i, h1, h2⟩ => ⟨i, h1, hw1.lift1 h2⟩))) rfl rfl (fun X Y h0 h => ⟨by first | rfl | (show (.agg #[.int .i64 (mn (mx budget 0) 1048576), .int .i64 (jload a b).mar, .int .i64 0, .slice (X 1).1 (agN (jload a b).ps (mn (mx budget 0) 1048576) l l.length).out.length (X 1).2] : Value) = .agg #[.int .i64 (mn (mx budget 0) 1048576), .int .i64 (jload a b).mar, .int .i64 0, .slice (Y 1).1 (agN (jload a b).ps (mn (mx budget 0) 1048576) l l.length).out.length (Y 1).2]; simp only [h0]), by first | rfl | (show ([Sx.Item.own 0 91 2 (.slice (X 1).1 (agN (jload a b).ps (mn (mx budget 0) 1048576) l l.length).out.length (X 1).2) (agN (jload a b).ps (mn (mx budget 0) 1048576) l l.length).out.length (((agN (jload a b).ps (mn (mx budget 0) 1048576) l l.length).out.map to91).flatMap pc91)] : List Sx.Item) = [Sx.Item.own 0 91 2 (.slice (Y 1).1 (agN (jload a b).ps (mn (mx budget 0) 1048576) l l.length).out.length (Y 1).2) (agN (jload a b).ps (mn (mx budget 0) 1048576) l l.length).out.length (((agN (jload a b).ps (mn (mx budget 0) 1048576) l l.length).out.map to91).flatMap pc91)]; simp only [h0])⟩) (ChainG.yield [] [] (fun X => q_loadA rfl rfl Mn42 Sz42 rfl (readsAll (i := 0) rfl)) rfl rfl (fun _ => rfl) (fun _ _ => rfl) (fun X Y h0 h => ⟨by first | rfl | simp only [h0], by first | rfl | simp only [h0]⟩) (ChainG.ope (fun (X : Nat → Gh) => .bool true) [1] [1] (fun X => oe_call rfl En18 rfl (fun R w1 hw1 => (same_of (mn (mx budget 0) 1048576) (jload a b).mar 0 (X 1) y.1 (agN (jload a b).ps (mn (mx budget 0) 1048576) l l.length).out w1 (hw1.get (i := 0) rfl) (hQ_y.below (hw1.toBelow (by simp))) (by omega)).mono (fun e w' ⟨h1, h2⟩ => ⟨(none, 0), h1, hw1.below h2⟩))) rfl rfl (fun X Y h0 h => ⟨by first | rfl | (show (.bool true : Value) = .bool true; simp only [h0, h 1 (by decide)]), by first | rfl | (show ([Sx.Item.own 0 91 2 (.slice (X 1).1 (agN (jload a b).ps (mn (mx budget 0) 1048576) l l.length).out.length (X 1).2) (agN (jload a b).ps (mn (mx budget 0) 1048576) l l.length).out.length (((agN (jload a b).ps (mn (mx budget 0) 1048576) l l.length).out.map to91).flatMap pc91)] : List Sx.Item) = [Sx.Item.own 0 91 2 (.slice (Y 1).1 (agN (jload a b).ps (mn (mx budget 0) 1048576) l l.length).out.length (Y 1).2) (agN (jload a b).ps (mn (mx budget 0) 1048576) l l.length).out.length (((agN (jload a b).ps (mn (mx budget 0) 1048576) l l.length).out.map to91).flatMap pc91)]; simp only [h0, h 1 (by decide)])⟩) (ChainG.yield [] [1, 3] (fun X => q_not rfl rfl) rfl rfl (fun _ => rfl) (fun _ _ => rfl) (fun X Y h0 h => ⟨by first | rfl | simp only [h0, h 1 (by decide), h 3 (by decide)], by first | rfl | simp only [h0, h 1 (by decide), h 3 (by decide)]⟩) (ChainG.yield [] [1, 3] (fun X => q_move rfl rfl) rfl rfl (fun _ => rfl) (fun _ _ => rfl) (fun X Y h0 h => ⟨by first | rfl | simp only [h0, h 1 (by decide), h 3 (by decide)], by first | rfl | simp only [h0, h 1 (by decide), h 3 (by decide)]⟩) (ChainG.wantq (b := false) [] [1, 3] (fun X => q_move rfl rfl) rfl rfl (fun _ => rfl) rfl (fun _ => rfl) (fun _ _ => rfl) (fun X Y h0 h => ⟨by first | rfl | simp only [h0, h 1 (by decide), h 3 (by decide)], by first | rfl | simp only [h0, h 1 (by decide), h 3 (by decide)]⟩) (ChainG.wantq (b := false) [3] [1, 3] (fun X => q_len rfl rfl Tryd.underlying33) rfl rfl (fun _ => rfl) rfl (fun _ => rfl) (fun _ _ => rfl) (fun X Y h0 h => ⟨by first | rfl | simp only [h0, h 1 (by decide), h 3 (by decide)], by first | rfl | simp only [h0, h 1 (by decide), h 3 (by decide)]⟩) (ChainG.wantq (b := false) [] [1, 3] (fun X => q_move rfl rfl) rfl rfl (fun _ => rfl) rfl (fun _ => rfl) (fun _ _ => rfl) (fun X Y h0 h => ⟨by first | rfl | simp only [h0, h 1 (by decide), h 3 (by decide)], by first | rfl | simp only [h0, h 1 (by decide), h 3 (by decide)]⟩) (ChainG.wantq (b := false) [3] [1, 3] (fun X => q_len rfl rfl Tryd.underlying33) rfl rfl (fun _ => rfl) rfl (fun _ => rfl) (fun _ _ => rfl) (fun X Y h0 h => ⟨by first | rfl | simp only [h0, h 1 (by decide), h 3 (by decide)], by first | rfl | simp only [h0, h 1 (by decide), h 3 (by decide)]⟩) (ChainG.wantq (b := false) [] [1, 3] (fun X => OpQ.to (q_bin rfl rfl rfl rfl) (congrArg Value.bool (show ((((agN (jload a b).ps (mn (mx budget 0) 1048576) l l.length).stops.length : Nat) : Int) != (((agN (jload a b).ps (mn (mx budget 0) 1048576) l l.length).stops.length : Nat) : Int)) = false by simp))) rfl rfl (fun _ => rfl) rfl (fun _ => rfl) (fun _ _ => rfl) (fun X Y h0 h => ⟨by first | rfl | simp only [h0, h 1 (by decide), h 3 (by decide)], by first | rfl | simp only [h0, h 1 (by decide), h 3 (by decide)]⟩) (ChainG.yield [] [1, 3] (fun X => q_pick rfl rfl rfl) rfl rfl (fun _ => rfl) (fun _ _ => rfl) (fun X Y h0 h => ⟨by first | rfl | simp only [h0, h 1 (by decide), h 3 (by decide)], by first | rfl | simp only [h0, h 1 (by decide), h 3 (by decide)]⟩) (ChainG.nil _ _))))))))))))) rfl rfl (fun X => [_, _, _]) (fun _ => rfl) (fun X => ?_))
          generalize X 1 = og1
          refine wl_nil ?_
          refine fq_then ?_
          refine wc_false rfl ?_
          refine wc_skip ?_
          refine fq_then ?_
          refine wc_seq ?_
          refine wc_seq ?_
          refine wc_region ?_
          refine wl_q (q_assign rfl rfl) rfl rfl (by decide) ?_
          refine wl_nil ?_
          refine fq_then ?_
          refine wc_block ?_
          refine wc_loop (ι := Nat) (fun j => [(14, .slice x.2.1 (agN (jload a b).ps (mn (mx budget 0) 1048576) l l.length).stops.length x.2.2), (16, .slice y.2.1 (agN (jload a b).ps (mn (mx budget 0) 1048576) l l.length).stops.length y.2.2), (17, .int .i64 (j : Nat))]) (fun j => [old w_5]) (fun j => j ≤ (agN (jload a b).ps (mn (mx budget 0) 1048576) l l.length).stops.length) (fun j => (agN (jload a b).ps (mn (mx budget 0) 1048576) l l.length).stops.length - j) 0 (Nat.zero_le _) ⟨List.forall_mem_cons.2 ⟨rfl, List.forall_mem_cons.2 ⟨rfl, List.forall_mem_cons.2 ⟨rfl, fun _ h => (by cases h)⟩⟩⟩, List.Sublist.cons _ (List.Sublist.cons _ (List.Sublist.cons_cons _ (List.Sublist.refl [])))⟩ ?_
          intro j hj
          refine wc_seq ?_
          refine wc_seq ?_
          refine wc_region ?_
          refine wl_q (q_move rfl rfl) rfl rfl (by decide) ?_
          refine wl_q (q_move rfl rfl) rfl rfl (by decide) ?_
          refine wl_q (q_len rfl rfl Tryd.underlying33) rfl rfl (by decide) ?_
          refine wl_q (q_bin rfl rfl rfl rfl) rfl rfl (by decide) ?_
          refine wl_nil ?_
          refine fq_then ?_
          refine wc_cond rfl (fun h90 => ?_) (fun h90 => ?_)
          · skip
            have q90 := h90
            try simp only [decide_eq_true_eq, decide_eq_false_iff_not, beq_iff_eq, beq_eq_false_iff_ne, bne_iff_ne, ne_eq, bne_eq_false_iff_eq, Int.not_lt, Int.not_le] at q90
            obtain ⟨z, hz⟩ : ∃ p, (agN (jload a b).ps (mn (mx budget 0) 1048576) l l.length).stops[j]? = some p := ⟨_, List.getElem?_eq_getElem (by omega)⟩
            obtain ⟨adx, hX, hx0⟩ := hS_x.at hz
            obtain ⟨ady, hY, hy0⟩ := hS_y.at hz
            have wj : IntKind.i64.wrap ((j : Int) + 1) = ((j + 1 : Nat) : Int) := wrap_nat (by omega)
            refine wc_skip ?_
            refine fq_then ?_
            refine wc_seq ?_
            refine wc_block ?_
            refine wc_seq ?_
            refine wc_draw 9 Fol (by kernel_rfl) (Chain.yield (q_move rfl rfl) rfl rfl (Chain.yield (q_move rfl rfl) rfl rfl (Chain.yield (q_indexO rfl rfl hX rfl Tryd.underlying33 Sz3 (by omega) (by omega)) rfl rfl (Chain.yield (q_load rfl rfl Mn3 (reads_old (by simp) (cell_zero hx0))) rfl rfl (Chain.yield (q_move rfl rfl) rfl rfl (Chain.yield (q_move rfl rfl) rfl rfl (Chain.yield (q_indexO rfl rfl hY rfl Tryd.underlying33 Sz3 (by omega) (by omega)) rfl rfl (Chain.yield (q_load rfl rfl Mn3 (reads_old (by simp) (cell_zero hy0))) rfl rfl (Chain.yield (OpQ.to (q_bin rfl rfl rfl rfl) (congrArg Value.bool (show (z != z) = false by simp))) rfl rfl (Chain.nil _)))))))))) ?_
            refine wl_nil ?_
            refine fq_then ?_
            refine wc_false rfl ?_
            refine wc_skip ?_
            refine fq_block ?_
            refine fq_then ?_
            refine wc_region ?_
            refine wl_q (q_move rfl rfl) rfl rfl (by decide) ?_
            refine wl_q (q_bin rfl rfl rfl rfl) rfl rfl (by decide) ?_
            refine wl_q (q_assign rfl rfl) rfl rfl (by decide) ?_
            refine wl_nil ?_
            refine fq_next (j + 1) (show j + 1 ≤ (agN (jload a b).ps (mn (mx budget 0) 1048576) l l.length).stops.length by omega) (show (agN (jload a b).ps (mn (mx budget 0) 1048576) l l.length).stops.length - (j + 1) < (agN (jload a b).ps (mn (mx budget 0) 1048576) l l.length).stops.length - j by omega) ⟨List.forall_mem_cons.2 ⟨rfl, List.forall_mem_cons.2 ⟨rfl, List.forall_mem_cons.2 ⟨(show some (Value.int .i64 (IntKind.i64.wrap ((j : Int) + 1))) = some (Value.int .i64 ((j + 1 : Nat) : Int)) from by rw [wj]), fun _ h => (by cases h)⟩⟩⟩, List.Sublist.refl _⟩
          · skip
            have q90 := h90
            try simp only [decide_eq_true_eq, decide_eq_false_iff_not, beq_iff_eq, beq_eq_false_iff_ne, bne_iff_ne, ne_eq, bne_eq_false_iff_eq, Int.not_lt, Int.not_le] at q90
            refine wc_exit ?_
            refine fq_then_exit ?_
            refine fq_then_exit ?_
            refine fq_block_hit ?_
            refine fq_then ?_
            refine wc_seq ?_
            refine wc_region ?_
            refine wl_q (q_assign rfl rfl) rfl rfl (by decide) ?_
            refine wl_nil ?_
            refine fq_then ?_
            refine wc_ret ?_
            refine fq_ret1 rfl rfl (fun w1 H => ?_)
            exact ⟨rfl, (by first | exact hB.next (H.toBelow (by simp)) | exact H.toBelow (by simp))⟩
end Go.Proofs.YtbcijmpkmmcdeaaDoor.SF
end
section
namespace Go.Proofs.YtbcijmpkmmcdeaaDoor.Op
open Go.RowKit Go.Proofs.YtbcijmpkmmcdeaaDoorW.PrintWords
open Go.ChangeShapes Go.WideShapes
structure Opens {α : Type} (K : Kd α) (P : Program) (t : TypeId) (ok : α → Prop) : Prop where
  sz : P.cellsOf t = K.sz
  op : ∀ {H : Type} {enc : TypeId × Value → H} {w : World} {base : Nat} {spare : Nat → Bool} {held : Bool} {fuel : Nat} {cs : List Value} {x : DataW H × List MemPlace},
    DataW.trod enc P w base spare held fuel t cs = some x → ∃ a, K.K w a cs ∧ ok a
theorem Opens.int {P : Program} {t : TypeId} (k : IntKind) (ht : P.underlying t = some (.int k)) (hc : P.cellsOf t = 1) : Opens (Kd.int k) P t (fun n => (Lit.int k n).wf = true) :=
  ⟨hc, fun h => by obtain ⟨n, rfl, _, hw⟩ := DataW.trod_int ht h; exact ⟨n, rfl, hw⟩⟩
theorem Opens.bool {P : Program} {t : TypeId} (ht : P.underlying t = some .bool) (hc : P.cellsOf t = 1) : Opens Kd.bool P t (fun _ => True) :=
  ⟨hc, fun h => by obtain ⟨b, rfl, _⟩ := DataW.trod_bool ht h; exact ⟨b, rfl, trivial⟩⟩
theorem Opens.string {P : Program} {t : TypeId} (ht : P.underlying t = some .string) (hc : P.cellsOf t = 1) : Opens Kd.string P t (fun s => s.size ≤ maxLen) :=
  ⟨hc, fun h => by obtain ⟨s, rfl, _, hw⟩ := DataW.trod_string ht h; exact ⟨s, rfl, hw⟩⟩
theorem cells_at {w : World} {base : Nat} {a : Addr} {n : Nat} {cs : List Value} (h : w.cells? base a n = some cs) : cs.length = n ∧ ∀ i u, cs[i]? = some u → w.cell? (a.add i) = some u := by
  obtain ⟨_, hl, hc⟩ := World.cells?_some h
  refine ⟨hl, fun i u hu => ?_⟩
  have hi : i < n := by have := (List.getElem?_eq_some_iff.1 hu).1; omega
  rw [hc i hi, hu]
theorem Opens.slice {α : Type} {K : Kd α} {P : Program} {t e : TypeId} {ok : α → Prop} (ht : P.underlying t = some (.slice e)) (hc : P.cellsOf t = 1) (h : Opens K P e ok) :
    Opens (Kd.slice e K) P t (fun xs => xs.length ≤ maxLen ∧ ∀ x ∈ xs, ok x) := by
  refine ⟨hc, fun {H enc w base spare held fuel cs x} hx => ?_⟩
  rcases DataW.trod_slice ht hx with ⟨rfl, _⟩ | ⟨a, len, cap, elems, rest, n, _, rfl, _, _, hl, hm, hlen, hel, _, _⟩
  · exact ⟨[], ⟨none, 0, rfl, Nat.le_refl _, rfl, by simp, fun h0 => absurd h0 (by simp)⟩, by simp, by simp⟩
  · have each : ∀ i, i < len → ∃ a', ok a' ∧ ∃ cs, cs.length = K.sz ∧ K.K w a' cs ∧ ∀ j u, cs[j]? = some u → w.cell? (a.add (i * K.sz + j)) = some u := by
      intro i hi
      have h1 := hel i hi
      rw [List.getElem?_eq_getElem (by omega), Option.bind_eq_some_iff] at h1
      obtain ⟨cs', hcs, hy⟩ := h1
      obtain ⟨a', hk, ho⟩ := h.op hy
      obtain ⟨hlc, hcell⟩ := cells_at hcs
      refine ⟨a', ho, cs', by rw [hlc, h.sz], hk, fun j u hu => ?_⟩
      have := hcell j u hu
      rwa [h.sz, Addr.add_add] at this
    have pick : ∀ m, m ≤ len → ∃ xs : List α, xs.length = m ∧ (∀ x ∈ xs, ok x) ∧ ∀ i p, xs[i]? = some p → ∃ cs, cs.length = K.sz ∧ K.K w p cs ∧ ∀ j u, cs[j]? = some u → w.cell? (a.add (i * K.sz + j)) = some u := by
      intro m
      induction m with
      | zero => intro _; exact ⟨[], rfl, by simp, by simp⟩
      | succ m ih =>
        intro hm'
        obtain ⟨xs, hxl, hxo, hxc⟩ := ih (by omega)
        obtain ⟨a', ho, hcs⟩ := each m (by omega)
        refine ⟨xs ++ [a'], by simp [hxl], fun y hy => ?_, fun i p hp => ?_⟩
        · rcases List.mem_append.1 hy with hy | hy
          · exact hxo y hy
          · rw [List.mem_singleton.1 hy]; exact ho
        · by_cases hi : i < m
          · rw [List.getElem?_append_left (by omega)] at hp
            exact hxc i p hp
          · have : i = m := by
              have := (List.getElem?_eq_some_iff.1 hp).1
              simp [hxl] at this; omega
            subst this
            rw [List.getElem?_append_right (by omega), hxl] at hp
            simp at hp
            subst hp
            exact hcs
    obtain ⟨xs, hxl, hxo, hxc⟩ := pick len (Nat.le_refl _)
    refine ⟨xs, ⟨some a, cap, by rw [hxl], by omega, rfl, by unfold maxLen at hm; omega, fun _ => ⟨a, rfl, hxc⟩⟩, by omega, hxo⟩
end Go.Proofs.YtbcijmpkmmcdeaaDoor.Op
end
section
namespace Go.Proofs.YtbcijmpkmmcdeaaDoor.PAll
open Go.RowKit Go.Proofs.YtbcijmpkmmcdeaaDoorW.PrintWords Go.Proofs.YtbcijmpkmmcdeaaDoorW.PrintLast Go.Proofs.YtbcijmpkmmcdeaaDoorW.PrintMore
open Go.ChangeShapes Go.WideShapes
set_option linter.unusedVariables false
set_option linter.unusedSimpArgs false
set_option maxRecDepth 100000
theorem opens28 : Op.Opens k28 Tryd.prog 28 (fun _ => True) := by
  refine ⟨by kernel_rfl, fun {H enc w base spare held fuel cs x} hx => ?_⟩
  obtain ⟨y0, y1, n, _, hl, h0, h1⟩ := trod_struct2 Tryd.underlying28 hx
  have hc3 : Tryd.prog.cellsOf 3 = 1 := by kernel_rfl
  have hc28 : Tryd.prog.cellsOf 28 = 2 := by kernel_rfl
  rw [hc28] at hl
  match cs, hl with
  | [u, v], _ =>
    simp only [hc3, List.drop_zero, List.take_succ_cons, List.take_zero, List.drop_succ_cons] at h0 h1
    obtain ⟨a, ea, _, _⟩ := DataW.trod_int Tryd.underlying3 h0
    obtain ⟨b, eb, _, _⟩ := DataW.trod_int Tryd.underlying3 h1
    simp only [List.cons.injEq, and_true] at ea eb
    subst ea; subst eb
    exact ⟨⟨a, b⟩, ⟨_, _, rfl, rfl, rfl⟩, trivial⟩
end Go.Proofs.YtbcijmpkmmcdeaaDoor.PAll
end
section
namespace Go.Proofs.YtbcijmpkmmcdeaaDoor.Laid
open Go.ChangeShapes Go.WideShapes Go.ChangeAt Go.RowKit
open Go.Proofs.YtbcijmpkmmcdeaaDoor.PAll (Half halfL)
theorem half_no : Tryd.prog.globalNamed "paternoster/crc.half" = some 0 := by kernel_rfl
theorem half_type : (Tryd.prog.globals[0]?).map (·.type) = some 139 := by kernel_rfl
theorem cellsA : Tryd.prog.cellsOf 139 = 16 := by kernel_rfl
theorem cellsE : Tryd.prog.cellsOf 132 = 1 := by kernel_rfl
theorem int_of_trod {H : Type} {enc : TypeId × Value → H} {P : Program} {w : World} {base : Nat} {sp : Nat → Bool} {held : Bool} {fuel : Nat} {t : TypeId} {k : IntKind} {c : Value} {y : DataW H × List MemPlace}
    (ht : P.underlying t = some (.int k)) (h : DataW.trod enc P w base sp held fuel t [c] = some y) : ∃ n, c = .int k n ∧ y = (.lit (.int k n), []) := by
  cases fuel with
  | zero => simp [DataW.trod] at h
  | succ fuel =>
    cases c <;> simp [DataW.trod, ht] at h
    rename_i k' n
    obtain ⟨⟨rfl, _⟩, rfl⟩ := h
    exact ⟨n, rfl, rfl⟩
def cells : Array Value := (halfL.map (Value.int .u32)).toArray
theorem cells_of_laid {W : World} (h : laidMet Tryd.prog [("paternoster/crc.half", Rows.laid_paternoster_crc_half)] W) : W.var? Tryd.prog "paternoster/crc.half" = some cells := by
  obtain ⟨ps, ⟨g, t, cs, fuel, p, q, hg, ht, hvar, hd, _, _⟩, _⟩ := h
  obtain rfl := Option.some.inj (half_no.symm.trans hg)
  obtain rfl := Option.some.inj (half_type.symm.trans ht)
  rw [hvar]
  congr 1
  obtain ⟨l⟩ := cs
  cases fuel with
  | zero => simp [DataW.trod] at hd
  | succ fuel =>
    simp only [DataW.trod, Tryd.underlying139, cellsA, cellsE] at hd
    split at hd
    · rename_i hl
      obtain ⟨c0, c1, c2, c3, c4, c5, c6, c7, c8, c9, c10, c11, c12, c13, c14, c15, rfl⟩ : ∃ c0 c1 c2 c3 c4 c5 c6 c7 c8 c9 c10 c11 c12 c13 c14 c15, l = [c0, c1, c2, c3, c4, c5, c6, c7, c8, c9, c10, c11, c12, c13, c14, c15] := by
        match l, hl with
        | [a, b, c, d, e, f, g, h, i, j, k, l, m, n, o, p], _ => exact ⟨a, b, c, d, e, f, g, h, i, j, k, l, m, n, o, p, rfl⟩
      have e : List.range 16 = [0, 1, 2, 3, 4, 5, 6, 7, 8, 9, 10, 11, 12, 13, 14, 15] := rfl
      rw [e] at hd
      simp only [Option.map_eq_some_iff, List.mapM_cons, List.mapM_nil, Option.bind_eq_bind, Option.bind_eq_some_iff, Option.pure_def, Option.some.injEq] at hd
      obtain ⟨xs, ⟨y0, h0, _, ⟨y1, h1, _, ⟨y2, h2, _, ⟨y3, h3, _, ⟨y4, h4, _, ⟨y5, h5, _, ⟨y6, h6, _, ⟨y7, h7, _, ⟨y8, h8, _, ⟨y9, h9, _, ⟨y10, h10, _, ⟨y11, h11, _, ⟨y12, h12, _, ⟨y13, h13, _, ⟨y14, h14, _, ⟨y15, h15, _, rfl, rfl⟩, rfl⟩, rfl⟩, rfl⟩, rfl⟩, rfl⟩, rfl⟩, rfl⟩, rfl⟩, rfl⟩, rfl⟩, rfl⟩, rfl⟩, rfl⟩, rfl⟩, rfl⟩, hx⟩ := hd
      obtain ⟨n0, rfl, rfl⟩ := int_of_trod Tryd.underlying132 h0
      obtain ⟨n1, rfl, rfl⟩ := int_of_trod Tryd.underlying132 h1
      obtain ⟨n2, rfl, rfl⟩ := int_of_trod Tryd.underlying132 h2
      obtain ⟨n3, rfl, rfl⟩ := int_of_trod Tryd.underlying132 h3
      obtain ⟨n4, rfl, rfl⟩ := int_of_trod Tryd.underlying132 h4
      obtain ⟨n5, rfl, rfl⟩ := int_of_trod Tryd.underlying132 h5
      obtain ⟨n6, rfl, rfl⟩ := int_of_trod Tryd.underlying132 h6
      obtain ⟨n7, rfl, rfl⟩ := int_of_trod Tryd.underlying132 h7
      obtain ⟨n8, rfl, rfl⟩ := int_of_trod Tryd.underlying132 h8
      obtain ⟨n9, rfl, rfl⟩ := int_of_trod Tryd.underlying132 h9
      obtain ⟨n10, rfl, rfl⟩ := int_of_trod Tryd.underlying132 h10
      obtain ⟨n11, rfl, rfl⟩ := int_of_trod Tryd.underlying132 h11
      obtain ⟨n12, rfl, rfl⟩ := int_of_trod Tryd.underlying132 h12
      obtain ⟨n13, rfl, rfl⟩ := int_of_trod Tryd.underlying132 h13
      obtain ⟨n14, rfl, rfl⟩ := int_of_trod Tryd.underlying132 h14
      obtain ⟨n15, rfl, rfl⟩ := int_of_trod Tryd.underlying132 h15
      simp [Rows.laid_paternoster_crc_half] at hx
      obtain ⟨⟨rfl, rfl, rfl, rfl, rfl, rfl, rfl, rfl, rfl, rfl, rfl, rfl, rfl, rfl, rfl, rfl⟩, _⟩ := hx
      rfl
    · cases hd
theorem half_of_laid {W : World} (h : laidMet Tryd.prog [("paternoster/crc.half", Rows.laid_paternoster_crc_half)] W) : Half W := by
  intro i hi
  have hc := World.var?_cell half_no (cells_of_laid h) i
  rw [hc]
  rcases (show i = 0 ∨ i = 1 ∨ i = 2 ∨ i = 3 ∨ i = 4 ∨ i = 5 ∨ i = 6 ∨ i = 7 ∨ i = 8 ∨ i = 9 ∨ i = 10 ∨ i = 11 ∨ i = 12 ∨ i = 13 ∨ i = 14 ∨ i = 15 by omega) with rfl | rfl | rfl | rfl | rfl | rfl | rfl | rfl | rfl | rfl | rfl | rfl | rfl | rfl | rfl | rfl <;> rfl
noncomputable def laidWorld (os : Os) : World :=
  { World.holding Tryd.prog os ⟨#[], #[], []⟩ with heap := (World.holding Tryd.prog os ⟨#[], #[], []⟩).heap.modify 0 fun
      | .cells _ t frozen => .cells cells t frozen
      | o => o }
theorem laid_met (os : Os) (args : Array Value) : laidMet Tryd.prog [("paternoster/crc.half", Rows.laid_paternoster_crc_half)] ((laidWorld os).forCall (fun _ _ => 0) ⟨#[], args, []⟩).memory :=
  laidMet_of_run' 8 (by kernel_rfl) (by kernel_rfl)
end Go.Proofs.YtbcijmpkmmcdeaaDoor.Laid
end
section
namespace Go.Proofs.YtbcijmpkmmcdeaaDoor.mendTells
open Go.ChangeShapes Go.WideShapes Go.ChangeAt Go.RowKit Go.Proofs.YtbcijmpkmmcdeaaDoorW.PrintWords
open Go.ChangeMaps (open_string shut_string)
set_option linter.unusedVariables false
theorem own : ownKnob Tryd.prog.godebug = none := by kernel_rfl
theorem laidOut : laidOutB Tryd.prog = true := by kernel_rfl
set_option maxRecDepth 100000 in
theorem lifted (os : Os) (started : os.Started) (H : Type) (enc : TypeId × Value → H) :
    ReturnsInHanded {} Tryd.checked os 3 .any (fun w args => (Rows.mendTellsSpec.pre enc Tryd.prog Tryd.f3 [] false w args ∧ laidMet Tryd.prog [("paternoster/crc.half", Rows.laid_paternoster_crc_half)] w) ∧ sizedMet enc Tryd.prog Tryd.f3 (OpenSpec.ofChange Rows.mendTellsSpec) false w args) (Rows.mendTellsSpec.post enc Tryd.prog Tryd.f3 false true false false) := by
  refine returnsInHanded_of_change_and (C := Tryd.checked) (X := fun w _ => laidMet Tryd.prog [("paternoster/crc.half", Rows.laid_paternoster_crc_half)] w) (fun _ _ _ hh h => h.of_heap hh) own started (by kernel_rfl) Tryd.func3
    (ChangeSpec.witness_at (enc := enc) (C := Tryd.checked) (os := os) (X := fun w _ => laidMet Tryd.prog [("paternoster/crc.half", Rows.laid_paternoster_crc_half)] w) false (Laid.laidWorld os) #[.slice none 0 0, .slice none 0 0, .slice none 0 0, .int .i64 0] 8 rfl (by kernel_rfl) (by kernel_rfl) (by kernel_rfl) (by kernel_rfl) (by kernel_rfl) (Laid.laid_met os _)) ?_
  intro W base args ds gs before hval0 hW _ hsz0 hL _
  have hhalf := Laid.half_of_laid hL
  have hsz : (DataW.weightsEach Tryd.prog (Tryd.f3.params.toList ++ Rows.mendTellsSpec.plain.varTypes Tryd.prog) (ds ++ gs)).all (· ≤ reachBytes) = true := hsz0
  have hval : ∀ (j : Nat) t v, Tryd.f3.params[j]? = some t → args[j]? = some v → Value.okWide Tryd.prog W .any base t v := hval0
  have hW' := hW
  obtain ⟨p, q, hA0, hV, rfl, hfz, hnd⟩ := hW
  have hA : DataW.TrodAll enc Tryd.prog W 0 (fun _ => true) true Tryd.f3.params.toList args.toList ds p := hA0
  rw [Tryd.params3] at hA hval hsz
  obtain ⟨v0, vs0, d0, ds0, p0, q0, hargs, rfl, rfl, h0, r0⟩ := trodAll_cons hA
  obtain ⟨v1, vs1, d1, ds1, p1, q1, rfl, rfl, rfl, h1, r1⟩ := trodAll_cons r0
  obtain ⟨v2, vs2, d2, ds2, p2, q2, rfl, rfl, rfl, h2, r2⟩ := trodAll_cons r1
  obtain ⟨v3, vs3, d3, ds3, p3, q3, rfl, rfl, rfl, h3, r3⟩ := trodAll_cons r2
  obtain ⟨rfl, rfl, rfl⟩ := trodAll_nil r3
  obtain rfl : args = #[v0, v1, v2, v3] := by cases args; simp_all
  obtain ⟨rfl, rfl⟩ := trodVars_none hV
  obtain ⟨A0, len0, c0, rfl⟩ := okWide_slice Tryd.underlying22 (hval 0 22 v0 rfl rfl)
  have k0 := h0
  have lt0 : ∀ x ∈ p0, x.block < W.heap.size := by obtain ⟨m, hm⟩ := k0; exact DataW.trod_lt m _ _ _ hm
  obtain ⟨fu0, hf0⟩ := h0
  obtain ⟨l0, ⟨B0, b0, e0, hc0, hr0⟩, ok0⟩ := (Op.Opens.slice (K := Kd.int .u8) Tryd.underlying22 (by kernel_rfl) (Op.Opens.int .u8 Tryd.underlying5 (by kernel_rfl))).op hf0
  simp [Value.cells] at e0
  obtain ⟨rfl, rfl, rfl⟩ := e0
  obtain ⟨A1, len1, c1, rfl⟩ := okWide_slice Tryd.underlying22 (hval 1 22 v1 rfl rfl)
  have k1 := h1
  have lt1 : ∀ x ∈ p1, x.block < W.heap.size := by obtain ⟨m, hm⟩ := k1; exact DataW.trod_lt m _ _ _ hm
  obtain ⟨fu1, hf1⟩ := h1
  obtain ⟨l1, ⟨B1, b1, e1, hc1, hr1⟩, ok1⟩ := (Op.Opens.slice (K := Kd.int .u8) Tryd.underlying22 (by kernel_rfl) (Op.Opens.int .u8 Tryd.underlying5 (by kernel_rfl))).op hf1
  simp [Value.cells] at e1
  obtain ⟨rfl, rfl, rfl⟩ := e1
  obtain ⟨A2, len2, c2, rfl⟩ := okWide_slice Tryd.underlying23 (hval 2 23 v2 rfl rfl)
  have k2 := h2
  have lt2 : ∀ x ∈ p2, x.block < W.heap.size := by obtain ⟨m, hm⟩ := k2; exact DataW.trod_lt m _ _ _ hm
  obtain ⟨fu2, hf2⟩ := h2
  obtain ⟨l2, ⟨B2, b2, e2, hc2, hr2⟩, ok2⟩ := (Op.Opens.slice (K := PAll.k28) Tryd.underlying23 (by kernel_rfl) PAll.opens28).op hf2
  simp [Value.cells] at e2
  obtain ⟨rfl, rfl, rfl⟩ := e2
  obtain ⟨a3, rfl, rfl, rfl, w3⟩ := open_int Tryd.underlying3 (hval 3 3 v3 rfl rfl) h3
  clear hA0 hval0 hsz0
  obtain ⟨k, hk⟩ := (⟨0, trivial⟩ : ∃ k : Nat, True)
  refine (SF.mtells_calls (A0, c0) (A1, c1) (A2, c2) l0 l1 l2 a3 W ⟨hc0, hr0⟩ ⟨hc1, hr1⟩ ⟨hc2, hr2⟩ (SF.bytes_wf ok0.2) (SF.bytes_wf ok1.2) hhalf).mono fun e W' ⟨he, bel⟩ => ?_
  subst he
  exact ⟨_, rfl, _, _, _, [], _, [], hW', trodAll_mk1 (shut_bool Tryd.underlying4 _), (trodAll_cons_mk (Below.trod laidOut (by kernel_rfl) (of_decide_eq_true (by kernel_rfl)) k0 bel lt0) (trodAll_cons_mk (Below.trod laidOut (by kernel_rfl) (of_decide_eq_true (by kernel_rfl)) k1 bel lt1) (trodAll_cons_mk (Below.trod laidOut (by kernel_rfl) (of_decide_eq_true (by kernel_rfl)) k2 bel lt2) (trodAll_cons_mk (shut_int Tryd.underlying3 w3) trodAll_mk0)))), rfl, bel.frame _, fun h => by cases h⟩
theorem over : Rows.mendTellsRow.holds Tryd.pinned (OpenSpec.ofChange Rows.mendTellsSpec) :=
  OpenClaim.holds_of_wide 3 Tryd.f3 rfl rfl rfl rfl rfl rfl rfl ⟨rfl, rfl, rfl, rfl, rfl⟩ rfl rfl rfl rfl rfl (by kernel_rfl) Tryd.func3 (by kernel_rfl)
    (of_decide_eq_true (by kernel_rfl)) (by unfold Func.isWrapper; first | (rw [if_pos (by decide +kernel)]; kernel_rfl) | (rw [if_neg (by decide +kernel)]; exact ⟨rfl, rfl⟩))
    (fun os started H enc _ => lifted os started H enc)
theorem proved : Rows.MendTellsSaid := over
theorem row_tie : Rows.mendTellsRow.laidByTextAt .later Tryd.pinned [.data] true := mendTells_row_tie
theorem card : Rows.MendTellsCardSaid :=
  Claim7.holds_tied_plain_at .later [] [.data] true (true, "fded5a95f2cb90ddeb8c0e98f18869e819c31d73c8176f1dff450dd77119bd84") false
    proved (fun _ h => by cases h) (by kernel_rfl) (fun _ h => by cases h) row_tie rfl ⟨rfl, rfl⟩ (by kernel_rfl) rfl
    (fun f fn hf hfn => by
      obtain rfl : f = 3 := Option.some.inj ((show Tryd.prog.funcNamed "paternoster/paternosterlaw17.MendTells" = some 3 by kernel_rfl).symm.trans hf) |>.symm
      obtain rfl : fn = Tryd.f3 := (Option.some.inj (Tryd.func3.symm.trans hfn)).symm
      exact ⟨by kernel_rfl, fun j t ht => by
        rw [Tryd.params3] at ht
        have ht' : t ∈ #[22, 22, 23, 3] := Array.mem_of_getElem? ht
        simp only [List.mem_toArray, List.mem_cons, List.not_mem_nil, or_false] at ht'
        rcases ht' with rfl | rfl | rfl | rfl
        · exact (show Tryd.prog.wantsStandIn 22 = false by kernel_rfl)
        · exact (show Tryd.prog.wantsStandIn 22 = false by kernel_rfl)
        · exact (show Tryd.prog.wantsStandIn 23 = false by kernel_rfl)
        · exact (show Tryd.prog.wantsStandIn 3 = false by kernel_rfl)⟩)
    (by kernel_rfl)
#print axioms card
end Go.Proofs.YtbcijmpkmmcdeaaDoor.mendTells
namespace Go.Proofs.YtbcijmpkmmcdeaaDoor
theorem mendTells_holds : Rows.MendTellsCardSaid := mendTells.card
end Go.Proofs.YtbcijmpkmmcdeaaDoor
end
