/- ScriptBack: for every input the law returns true, the variables as they are laid. No condition. -/
import Derived.Test.YtglgipggefpoiaaGreatDoorCSBack13
import Derived.Test.YtglgipggefpoiaaGreatDoorCSBack8
import Derived.Laws.IdiomStrings
import Derived.Laws.MakeOwn
import Derived.Test.YtglgipggefpoiaaGreatDoorCSBack10
import Derived.Test.YtglgipggefpoiaaGreatDoorCSBack6
import Derived.Test.YtglgipggefpoiaaGreatDoorCSBack7
import Derived.SizedLaws
import Derived.ChangeArms
import Derived.DataElems
import Derived.DataReads
import Derived.ProofKit
import Derived.OpenShut
import Derived.ChangeSame
import Derived.Test.YtglgipggefpoiaaGreatDoorRows
import Derived.HandedShaped
import Derived.Lib.LaidU8
import Derived.Lib.LaidTab
import Derived.Lay
import Derived.MakeChecks
import Derived.Shelf.Vars
import Derived.Test.YtglgipggefpoiaaGreatDoorTie
import Derived.Test.YtglgipggefpoiaaGreatDoorCards
import Derived.SevenTiedAt
import Derived.WalkKit
import Derived.ShutString
import Derived.ChangeOld
import Derived.Below
section
namespace Go.Proofs.YtglgipggefpoiaaGreatDoor.SF
open Go.RowKit Go.Sx Go.Proofs.YtglgipggefpoiaaGreatDoor.PAll Go.Proofs.YtglgipggefpoiaaGreatDoorW.PrintWords Go.Proofs.YtglgipggefpoiaaGreatDoorW.PrintLast Go.Proofs.YtglgipggefpoiaaGreatDoorW.PrintMore
set_option linter.unusedVariables false
set_option linter.unusedSimpArgs false
set_option maxRecDepth 100000
def ex1 : ByteArray := ⟨#[109, 97, 105, 110, 115, 32, 110, 111, 110, 101, 32, 48, 32, 48, 32, 99, 97, 108, 108, 32, 48, 32, 51]⟩
def ex2 : ByteArray := ⟨#[109, 97, 105, 110, 115, 32, 110, 111, 110, 101, 32, 48, 32, 48, 48]⟩
theorem ex1_tick : tickP ex1 = ((true, false, 0, 0, [⟨1, 0, 3⟩]), 0) := by kernel_rfl
theorem ex2_tick : tickP ex2 = ((false, false, 0, 0, []), 11) := by kernel_rfl
theorem ex1_put : putS true false 0 0 [⟨1, 0, 3⟩] = ex1 := by kernel_rfl
theorem parseE {s : ByteArray} {m g : Bool} {c : Int} {b : Nat} {L : List S49} {err : Int} (h : tickP s = ((m, g, c, b, L), err)) (w : World) (hL : Lw w) : Calls Tryz.prog 11 #[.string s] w fun e w' => ∃ q : Gh, RowE w' q L ∧ e = .returned (.tuple #[.agg #[.bool m, .bool g, .int .i64 c, .int .u64 b, .slice q.1 L.length q.2], .int .i64 err]) ∧ Below w.heap.size w w' := by
  have := parse_calls s w hL
  rw [h] at this
  exact this.mono (fun e w' ⟨q, h1, h2, h3⟩ => ⟨q, h2, h1, h3⟩)
theorem eqA49 (d : Nat) (w : World) (x0 y0 x1 y1 x2 y2 : Int) : (Op.equalIn (d + 2) 49 (.agg #[.int .i64 x0, .int .i64 x1, .int .i64 x2]) (.agg #[.int .i64 y0, .int .i64 y1, .int .i64 y2])).run Tryz.prog w = .ok (x0 == y0 && (x1 == y1 && (x2 == y2))) w := by
  refine eqA_of Tryz.underlying49 (by kernel_rfl) ?_
  refine eqf_cons (by rfl) (by go_simp; rfl) (by go_simp; rfl) (by go_simp) ?_
  refine eqf_cons (by rfl) (by go_simp; rfl) (by go_simp; rfl) (by go_simp) ?_
  exact eqf_last (by rfl) (by go_simp; rfl) (by go_simp; rfl) (by go_simp)
theorem eq49 (w : World) (x0 y0 x1 y1 x2 y2 : Int) : (Op.equal 49 (.agg #[.int .i64 x0, .int .i64 x1, .int .i64 x2]) (.agg #[.int .i64 y0, .int .i64 y1, .int .i64 y2])).run Tryz.prog w = .ok (x0 == y0 && (x1 == y1 && (x2 == y2))) w := by
  have h := eqA49 (Op.maxDepth - 2) w x0 y0 x1 y1 x2 y2
  rw [show Op.maxDepth - 2 + 2 = Op.maxDepth from rfl] at h
  simpa [Op.equal] using h
set_option maxHeartbeats 1000000 in
theorem awake_calls (w : World) (hL : Lw w) : Calls Tryz.prog 7 #[] w fun e w' => e = .returned (.bool true) ∧ Below w.heap.size w w' := by
  refine enter (w0 := w) (hp := [old w]) (env := []) Tryz.func7 rfl 51 rfl (by simp) rfl (HeapOK.start _) ?_
  refine wc_seq ?_
  refine wc_region ?_
  refine wl_q (q_assign rfl rfl) rfl rfl (by decide) ?_
  refine wl_nil ?_
  refine fq_then ?_
  refine wc_seq ?_
  refine wc_region ?_
  refine wl_callK (ι := Gh) (fun i => .tuple #[.agg #[.bool true, .bool false, .int .i64 0, .int .u64 0, .slice i.1 [⟨1, 0, 3⟩].length i.2], .int .i64 0]) (fun i w w' => RowE w' i [⟨1, 0, 3⟩]) rfl rfl rfl (by decide) En11 rfl (fun w1 hw1 => parseE (m := true) (g := false) (c := 0) (b := 0) (L := [⟨1, 0, 3⟩]) (err := 0) ex1_tick w1 (hL.below (hw1.toBelow (by simp)))) (fun p1 wa_ w_1 _ Hn_ _ hC_ => ?_)
  have hx_ := Hn_.toBelow (by simp)
  have hL := hL.below hx_
  have hB := hx_
  have hE_p1 := hC_
  refine wl_q (q_move rfl rfl) rfl rfl (by decide) ?_
  refine wl_q (q_extract rfl rfl rfl) rfl rfl (by decide) ?_
  refine wl_q (q_extract rfl rfl rfl) rfl rfl (by decide) ?_
  refine wl_alloc rfl rfl rfl (by decide) Zr25 (fun b2 => ?_)
  refine wl_store (i := 0) rfl rfl rfl rfl rfl rfl Sz25 rfl rfl (by simp) (by simp [Value.oneCell']) (by first | (simp only [List.take_succ_cons, List.take_zero, List.take_nil, List.drop_succ_cons, List.drop_zero, List.drop_nil, List.nil_append, List.cons_append, List.append_nil, List.length_cons, List.length_nil, Nat.reduceAdd, Nat.zero_add]; rfl) | rfl) (by first | (simp only [List.set_cons_zero, List.set_cons_succ]; rfl) | rfl) ?_
  refine wl_q (q_assign rfl rfl) rfl rfl (by decide) ?_
  refine wl_nil ?_
  refine fq_then ?_
  refine wc_seq ?_
  refine wc_region ?_
  refine wl_callK (ι := Gh) (fun i => .tuple #[.agg #[.bool false, .bool false, .int .i64 0, .int .u64 0, .slice i.1 [].length i.2], .int .i64 11]) (fun i w w' => RowE w' i []) rfl rfl rfl (by decide) En11 rfl (fun w1 hw1 => parseE (m := false) (g := false) (c := 0) (b := 0) (L := []) (err := 11) ex2_tick w1 (hL.below (hw1.toBelow (by simp)))) (fun p2 wa_ w_3 _ Hn_ _ hC_ => ?_)
  have hx_ := Hn_.toBelow (by simp)
  have fb_b2 : Blk w_3 b2 _ _ := Hn_.get (i := 0) rfl
  have hL := hL.below hx_
  have hE_p1 := hE_p1.below hx_
  have hB := hB.next hx_
  have hE_p2 := hC_
  refine wl_q (q_move rfl rfl) rfl rfl (by decide) ?_
  refine wl_q (q_extract rfl rfl rfl) rfl rfl (by decide) ?_
  refine wl_q (q_extract rfl rfl rfl) rfl rfl (by decide) ?_
  refine wl_alloc rfl rfl rfl (by decide) Zr25 (fun b4 => ?_)
  refine wl_store (i := 0) rfl rfl rfl rfl rfl rfl Sz25 rfl rfl (by simp) (by simp [Value.oneCell']) (by first | (simp only [List.take_succ_cons, List.take_zero, List.take_nil, List.drop_succ_cons, List.drop_zero, List.drop_nil, List.nil_append, List.cons_append, List.append_nil, List.length_cons, List.length_nil, Nat.reduceAdd, Nat.zero_add]; rfl) | rfl) (by first | (simp only [List.set_cons_zero, List.set_cons_succ]; rfl) | rfl) ?_
  refine wl_q (q_assign rfl rfl) rfl rfl (by decide) ?_
  refine wl_nil ?_
  refine fq_then ?_
  refine wc_seq ?_
  obtain ⟨ad1, hA1, hr1⟩ := hE_p1.at (i := 0) (e := ⟨1, 0, 3⟩) rfl
  refine wc_region ?_
  refine wl_q (q_move rfl rfl) rfl rfl (by decide) ?_
  refine wl_q (OpQ.to (q_bin rfl rfl rfl rfl) (congrArg Value.bool (by rfl))) rfl rfl (by decide) ?_
  refine wl_q (q_move rfl rfl) rfl rfl (by decide) ?_
  refine wl_want (b := true) (q_fa (o1 := 0) rfl rfl Fo25_0 rfl) rfl rfl rfl rfl (by decide) ?_
  refine wl_want (b := true) (q_load rfl rfl Mn4 (reads_blk (by simp) fb_b2 rfl)) rfl rfl rfl rfl (by decide) ?_
  refine wl_q (q_pick rfl rfl rfl) rfl rfl (by decide) ?_
  refine wl_q (q_move rfl rfl) rfl rfl (by decide) ?_
  refine wl_want (b := true) (q_fa (o1 := 1) rfl rfl Fo25_1 rfl) rfl rfl rfl rfl (by decide) ?_
  refine wl_want (b := true) (q_load rfl rfl Mn4 (reads_blk (by simp) fb_b2 rfl)) rfl rfl rfl rfl (by decide) ?_
  refine wl_want (b := true) (q_not rfl rfl) rfl rfl rfl rfl (by decide) ?_
  refine wl_q (q_pick rfl rfl rfl) rfl rfl (by decide) ?_
  refine wl_q (q_move rfl rfl) rfl rfl (by decide) ?_
  refine wl_want (b := true) (q_fa (o1 := 4) rfl rfl Fo25_4 rfl) rfl rfl rfl rfl (by decide) ?_
  refine wl_want (b := true) (q_load rfl rfl Mn23 (reads_blk (by simp) fb_b2 rfl)) rfl rfl rfl rfl (by decide) ?_
  refine wl_want (b := true) (q_len rfl rfl Tryz.underlying23) rfl rfl rfl rfl (by decide) ?_
  refine wl_want (b := true) (OpQ.to (q_bin rfl rfl rfl rfl) (congrArg Value.bool (by rfl))) rfl rfl rfl rfl (by decide) ?_
  refine wl_q (q_pick rfl rfl rfl) rfl rfl (by decide) ?_
  refine wl_q (q_move rfl rfl) rfl rfl (by decide) ?_
  refine wl_want (b := true) (q_fa (o1 := 4) rfl rfl Fo25_4 rfl) rfl rfl rfl rfl (by decide) ?_
  refine wl_want (b := true) (q_load rfl rfl Mn23 (reads_blk (by simp) fb_b2 rfl)) rfl rfl rfl rfl (by decide) ?_
  refine wl_want (b := true) (q_indexO rfl rfl hA1 rfl Tryz.underlying23 Sz49 (by decide) (by decide)) rfl rfl rfl rfl (by decide) ?_
  refine wl_want (b := true) (q_loadA rfl rfl Mn49 Sz49 rfl (reads_old (cs := [.int .i64 1, .int .i64 0, .int .i64 3]) (by simp) hr1)) rfl rfl rfl rfl (by decide) ?_
  refine wl_want (b := true) (q_build rfl rfl (built_of Zr49 Pl49 (by simp only [fillL, List.map_cons, List.map_nil, Value.cells, List.getElem?_cons_zero, List.getElem?_cons_succ, List.length_cons, List.length_nil, Nat.reduceAdd, Nat.reduceLeDiff, Nat.le_refl, and_self, and_true, true_and, if_true, Nat.zero_add, spl, List.take_succ_cons, List.take_zero, List.take_nil, List.drop_succ_cons, List.drop_zero, List.drop_nil, List.nil_append, List.cons_append, List.append_nil] <;> rfl))) rfl rfl rfl rfl (by decide) ?_
  refine wl_want (b := true) (OpQ.to (q_eqAgg (c := true) rfl (.inl rfl) rfl rfl (by kernel_rfl) (fun w1 => eq49 w1 _ _ _ _ _ _)) rfl) rfl rfl rfl rfl (by decide) ?_
  refine wl_q (q_pick rfl rfl rfl) rfl rfl (by decide) ?_
  refine wl_q (q_move rfl rfl) rfl rfl (by decide) ?_
  refine wl_want (b := true) (q_move rfl rfl) rfl rfl rfl rfl (by decide) ?_
  refine wl_want (b := true) (OpQ.to (q_bin rfl rfl rfl rfl) (congrArg Value.bool (by rfl))) rfl rfl rfl rfl (by decide) ?_
  refine wl_q (q_pick rfl rfl rfl) rfl rfl (by decide) ?_
  refine wl_q (q_move rfl rfl) rfl rfl (by decide) ?_
  refine wl_want (b := true) (q_loadA rfl rfl Mn25 Sz25 rfl (reads_blkA (by simp) fb_b2)) rfl rfl rfl rfl (by decide) ?_
  refine wl_want (b := true) (q_call rfl En8 rfl (fun w1 hw1 => put_calls true false 0 0 p1 [⟨1, 0, 3⟩] w1 (hL.below (hw1.toBelow (by simp))) (hE_p1.below (hw1.toBelow (by simp))) (by unfold i64r; decide) (by decide) (by decide) (by unfold i64r; decide))) rfl rfl rfl rfl (by decide) ?_
  refine wl_want (b := true) (q_eqlStr (c := true) rfl (.inl ⟨rfl, show ((putS true false 0 0 [⟨1, 0, 3⟩]).toList == ex1.toList) = true from by rw [ex1_put]; exact beq_self_eq_true _⟩) rfl rfl (fun w => rfl)) rfl rfl rfl rfl (by decide) ?_
  refine wl_q (q_pick rfl rfl rfl) rfl rfl (by decide) ?_
  refine wl_q (q_move rfl rfl) rfl rfl (by decide) ?_
  refine wl_want (b := true) (q_call rfl En15 rfl (fun w1 hw1 => show_nil w1)) rfl rfl rfl rfl (by decide) ?_
  refine wl_want (b := true) (q_eqlStr (c := true) rfl (.inl ⟨rfl, by simp⟩) rfl rfl (fun w => rfl)) rfl rfl rfl rfl (by decide) ?_
  refine wl_q (q_pick rfl rfl rfl) rfl rfl (by decide) ?_
  refine wl_q (q_assign rfl rfl) rfl rfl (by decide) ?_
  refine wl_nil ?_
  refine fq_then ?_
  refine wc_ret ?_
  refine fq_ret1 rfl rfl (fun w1 H => ?_)
  exact ⟨rfl, (by first | exact hB.next (H.toBelow (by simp)) | exact H.toBelow (by simp))⟩
end Go.Proofs.YtglgipggefpoiaaGreatDoor.SF
end
section
namespace Go.Proofs.YtglgipggefpoiaaGreatDoor.SF
open Go.RowKit Go.Sx Go.Proofs.YtglgipggefpoiaaGreatDoor.PAll Go.Proofs.YtglgipggefpoiaaGreatDoorW.PrintWords Go.Proofs.YtglgipggefpoiaaGreatDoorW.PrintLast Go.Proofs.YtglgipggefpoiaaGreatDoorW.PrintMore
set_option linter.unusedVariables false
set_option linter.unusedSimpArgs false
set_option maxRecDepth 100000
theorem RowQ.at {w : World} {q : Gh} {l : List S45} {i : Nat} {e : S45} (h : RowQ w q l) (hi : l[i]? = some e) : ∃ ad, q.1 = some ad ∧ ∀ (j : Nat) (u : Value), ([.int .i64 e.f0, .int .i64 e.f1, .int .i64 e.f2] : List Value)[j]? = some u → w.cell? ((ad.add ((i : Int).toNat * 3)).add j) = some u := by
  have hlt := (List.getElem?_eq_some_iff.1 hi).1
  obtain ⟨ad, c, e1, _, hK, hc0⟩ := Kd.C_get h.2 z45 (i : Int) (by omega) (by omega)
  have he : l.getD (i : Int).toNat z45 = e := by rw [Int.toNat_natCast, List.getD_eq_getElem?_getD, hi]; rfl
  rw [he] at hK
  obtain rfl := k45_open hK
  exact ⟨ad, e1, fun j u hu => by rw [Sx.add_add]; exact hc0 j u hu⟩
def nrmL (l : List S49) (j : Nat) : List S45 := ((l.take j).filterMap norm).map to45
theorem nrmL_none {l : List S49} {j : Nat} {e : S49} (h : l[j]? = some e) (hf : formAt e.f0 = none) : nrmL l (j + 1) = nrmL l j := by
  have hn : norm e = none := by unfold norm; rw [hf]
  unfold nrmL
  rw [List.take_add_one, h, List.filterMap_append]
  simp [hn]
theorem nrmL_some {l : List S49} {j : Nat} {e : S49} {wd : ByteArray} {c n : Bool} (h : l[j]? = some e) (hf : formAt e.f0 = some (wd, c, n)) : nrmL l (j + 1) = nrmL l j ++ [⟨e.f0, if c then e.f1 else 0, if n then e.f2 else 0⟩] := by
  have hn : norm e = some ⟨e.f0, if c then e.f1 else 0, if n then e.f2 else 0⟩ := by unfold norm; rw [hf]
  unfold nrmL
  rw [List.take_add_one, h, List.filterMap_append]
  simp [hn, to45]
theorem nrmL_all (l : List S49) : nrmL l l.length = (l.filterMap norm).map to45 := by unfold nrmL; rw [List.take_length]
theorem nrmL_le (l : List S49) (j : Nat) : (nrmL l j).length ≤ l.length := by
  unfold nrmL
  rw [List.length_map]
  exact Nat.le_trans (List.length_filterMap_le _ _) (by rw [List.length_take]; omega)
theorem kindQ {k : Int} {x : Option (ByteArray × Bool × Bool)} (hf : formAt k = x) (w : World) : Calls Tryz.prog 14 #[.int .i64 k] w fun e w' => e = .returned (.tuple #[.string (x.getD (⟨#[]⟩, false, false)).1, .bool (x.getD (⟨#[]⟩, false, false)).2.1, .bool (x.getD (⟨#[]⟩, false, false)).2.2]) ∧ Below w.heap.size w w' :=
  (paternosterref24_Kind.calls k _ _ _ w (by rw [kind_ev, hf])).mono (fun e w' ⟨h1, h2⟩ => ⟨h1, h2.below⟩)
set_option maxHeartbeats 2000000 in
theorem back_law (m g : Bool) (c : Int) (b : Nat) (q : Gh) (l : List S49) (w : World) (hr : RowE w q l) (hc : i64r c) (hb : b < 18446744073709551616) (he : ∀ e ∈ l, i64r e.f1 ∧ i64r e.f2) (hL : Lw w) : Calls Tryz.prog 5 #[.agg #[.bool m, .bool g, .int .i64 c, .int .u64 b, .slice q.1 l.length q.2]] w fun e w' => e = .returned (.bool true) ∧ Below w.heap.size w w' := by
  refine enter (w0 := w) (hp := [old w]) (env := [(0, .agg #[.bool m, .bool g, .int .i64 c, .int .u64 b, .slice q.1 l.length q.2])]) Tryz.func5 rfl 76 rfl (by simp) rfl (HeapOK.start _) ?_
  refine wc_seq ?_
  refine wc_region ?_
  refine wl_box rfl rfl rfl (by decide) rfl rfl (fun b1 => ?_)
  refine wl_q (q_assign rfl rfl) rfl rfl (by decide) ?_
  refine wl_nil ?_
  refine fq_then ?_
  refine wc_seq ?_
  refine wc_region ?_
  refine wl_q (q_call rfl En7 rfl (fun w1 hw1 => awake_calls w1 (hL.below (hw1.toBelow (by simp))))) rfl rfl (by decide) ?_
  refine wl_q (q_assign rfl rfl) rfl rfl (by decide) ?_
  refine wl_nil ?_
  refine fq_then ?_
  refine wc_seq ?_
  refine wc_seq ?_
  refine wc_region ?_
  refine wl_q (q_move rfl rfl) rfl rfl (by decide) ?_
  refine wl_q (q_not rfl rfl) rfl rfl (by decide) ?_
  refine wl_nil ?_
  refine fq_then ?_
  refine wc_false rfl ?_
  refine wc_skip ?_
  refine fq_then ?_
  refine wc_seq ?_
  refine wc_seq ?_
  refine wc_region ?_
  refine wl_q (q_fa (o1 := 4) rfl rfl Fo25_4 rfl) rfl rfl (by decide) ?_
  refine wl_q (q_load rfl rfl Mn23 (reads1 (i := 0) rfl rfl)) rfl rfl (by decide) ?_
  refine wl_q (q_len rfl rfl Tryz.underlying23) rfl rfl (by decide) ?_
  refine wl_q (q_bin rfl rfl rfl rfl) rfl rfl (by decide) ?_
  refine wl_nil ?_
  refine fq_then ?_
  refine wc_cond rfl (fun h19 => ?_) (fun h19 => ?_)
  · skip
    have q19 := h19
    try simp only [decide_eq_true_eq, decide_eq_false_iff_not, beq_iff_eq, beq_eq_false_iff_ne, bne_iff_ne, ne_eq, bne_eq_false_iff_eq, Int.not_lt, Int.not_le] at q19
    refine wc_seq ?_
    refine wc_region ?_
    refine wl_q (q_assign rfl rfl) rfl rfl (by decide) ?_
    refine wl_nil ?_
    refine fq_then ?_
    refine wc_ret ?_
    refine fq_then_ret ?_
    refine fq_ret1 rfl rfl (fun w1 H => ?_)
    exact ⟨rfl, (by first | exact hB.next (H.toBelow (by simp)) | exact H.toBelow (by simp))⟩
  · skip
    have q19 := h19
    try simp only [decide_eq_true_eq, decide_eq_false_iff_not, beq_iff_eq, beq_eq_false_iff_ne, bne_iff_ne, ne_eq, bne_eq_false_iff_eq, Int.not_lt, Int.not_le] at q19
    refine wc_skip ?_
    refine fq_then ?_
    refine wc_seq ?_
    refine wc_region ?_
    refine wl_q (q_loadA rfl rfl Mn25 Sz25 rfl (readsAll (i := 0) rfl)) rfl rfl (by decide) ?_
    refine wl_q (q_call rfl En8 rfl (fun w1 hw1 => put_calls m g c b q l w1 (hL.below (hw1.toBelow (by simp))) (hr.below (hw1.toBelow (by simp))) hc hb (by omega) he)) rfl rfl (by decide) ?_
    refine wl_callK (ι := Gh) (fun i => .tuple #[.agg #[.bool m, .bool g, .int .i64 c, .int .u64 b, .slice i.1 (l.filterMap norm).length i.2], .int .i64 0]) (fun i w w' => RowE w' i (l.filterMap norm)) rfl rfl rfl (by decide) En11 rfl (fun w1 hw1 => parseE (m := m) (g := g) (c := c) (b := b) (L := (l.filterMap norm)) (err := 0) (tick_back m g hc hb he (by omega)) w1 (hL.below (hw1.toBelow (by simp)))) (fun p1 wa_ w_2 _ Hn_ _ hC_ => ?_)
    have hx_ := Hn_.toBelow (by simp)
    have fb_b1 : Blk w_2 b1 _ _ := Hn_.get (i := 0) rfl
    have hL := hL.below hx_
    have hr := hr.below hx_
    have hB := hx_
    have hE_p1 := hC_
    refine wl_q (q_move rfl rfl) rfl rfl (by decide) ?_
    refine wl_q (q_extract rfl rfl rfl) rfl rfl (by decide) ?_
    refine wl_q (q_extract rfl rfl rfl) rfl rfl (by decide) ?_
    refine wl_alloc rfl rfl rfl (by decide) Zr25 (fun b3 => ?_)
    refine wl_store (i := 0) rfl rfl rfl rfl rfl rfl Sz25 rfl rfl (by simp) (by simp [Value.oneCell', Sx.spl]) (by first | (simp only [List.take_succ_cons, List.take_zero, List.take_nil, List.drop_succ_cons, List.drop_zero, List.drop_nil, List.nil_append, List.cons_append, List.append_nil, List.length_cons, List.length_nil, Nat.reduceAdd, Nat.zero_add]; rfl) | rfl) (by first | (simp only [List.set_cons_zero, List.set_cons_succ]; rfl) | rfl) ?_
    refine wl_q (q_assign rfl rfl) rfl rfl (by decide) ?_
    refine wl_nil ?_
    refine fq_then ?_
    refine wc_seq ?_
    refine wc_region ?_
    refine wl_q (q_loadA rfl rfl Mn25 Sz25 rfl (reads_blkA (by simp) fb_b1)) rfl rfl (by decide) ?_
    refine wl_callK (ι := Gh) (fun i => .agg #[.bool m, .bool g, .int .i64 c, .int .u64 b, .slice i.1 l.length i.2]) (fun i w w' => RowQ w' i (l.map to45)) rfl rfl rfl (by decide) En10 rfl (fun w1 hw1 => ofK m g c b q l w1 (hr.below (hw1.toBelow (by simp))) (by omega)) (fun wt wa_ w_4 _ Hn_ _ hC_ => ?_)
    have hx_ := Hn_.toBelow (by simp)
    have fb_b3 : Blk w_4 b3 _ _ := Hn_.get (i := 0) rfl
    have hL := hL.below hx_
    have hr := hr.below hx_
    have fb_b1 := fb_b1.below hx_
    have hE_p1 := hE_p1.below hx_
    have hB := hB.next hx_
    have hQ_wt := hC_
    refine wl_alloc rfl rfl rfl (by decide) Zr31 (fun b5 => ?_)
    refine wl_store (i := 0) rfl rfl rfl rfl rfl rfl Sz31 rfl rfl (by simp) (by simp [Value.oneCell', Sx.spl]) (by first | (simp only [List.take_succ_cons, List.take_zero, List.take_nil, List.drop_succ_cons, List.drop_zero, List.drop_nil, List.nil_append, List.cons_append, List.append_nil, List.length_cons, List.length_nil, Nat.reduceAdd, Nat.zero_add]; rfl) | rfl) (by first | (simp only [List.set_cons_zero, List.set_cons_succ]; rfl) | rfl) ?_
    refine wl_nil ?_
    refine fq_then ?_
    refine wc_seq ?_
    refine wc_region ?_
    refine wl_q (q_assign rfl rfl) rfl rfl (by decide) ?_
    refine wl_nil ?_
    refine fq_then ?_
    refine wc_seq ?_
    refine wc_seq ?_
    refine wc_region ?_
    refine wl_q (q_assign rfl rfl) rfl rfl (by decide) ?_
    refine wl_nil ?_
    refine fq_then ?_
    refine wc_block ?_
    refine wc_own (E := 45) (sz := 3) ?_
    refine wc_loop (ι := (Nat × Nat × List S45 × Gh)) (fun ⟨j, n, L, p⟩ => [(1, .pointer (some ⟨b1, 0, none⟩)), (4, .pointer (some ⟨b3, 0, none⟩)), (5, .int .i64 0), (6, .pointer (some ⟨b5, 0, none⟩)), (7, .slice p.1 n p.2), (8, .int .i64 (j : Nat))]) (fun ⟨j, n, L, p⟩ => [.own 0 45 3 (.slice p.1 n p.2) n (L.flatMap c45), .blk b5 [.bool m, .bool g, .int .i64 c, .int .u64 b, .slice wt.1 l.length wt.2] 31, old w_4]) (fun ⟨j, n, L, p⟩ => j ≤ l.length ∧ n = L.length ∧ L = nrmL l j) (fun ⟨j, n, L, p⟩ => l.length - j) (0, 0, [], (none, 0)) ⟨Nat.zero_le _, rfl, rfl⟩ ⟨List.forall_mem_cons.2 ⟨rfl, List.forall_mem_cons.2 ⟨rfl, List.forall_mem_cons.2 ⟨rfl, List.forall_mem_cons.2 ⟨rfl, List.forall_mem_cons.2 ⟨rfl, List.forall_mem_cons.2 ⟨rfl, fun _ h => (by cases h)⟩⟩⟩⟩⟩⟩, List.Sublist.refl _⟩ ?_
    rintro ⟨j, n, L, p⟩ ⟨hj, hn, hL_⟩
    dsimp only at hj hn hL_ ⊢
    rcases hev : evAt l j with _ | ⟨e, _ | ⟨wd, c1, n1⟩⟩
    · skip
      have hil := evAt_none hev hj
      subst hil
      rw [nrmL_all] at hL_
      have hLn : L.length = (l.filterMap norm).length := by rw [hL_, List.length_map]
      rw [hLn] at hn
      subst hn
      subst hL_
      refine wc_seq ?_
      refine wc_seq ?_
      refine wc_region ?_
      refine wl_q (q_move rfl rfl) rfl rfl (by decide) ?_
      refine wl_q (q_fa (o1 := 4) rfl rfl Fo31_4 rfl) rfl rfl (by decide) ?_
      refine wl_q (q_load rfl rfl Mn29 (reads1 (i := 1) rfl rfl)) rfl rfl (by decide) ?_
      refine wl_q (q_len rfl rfl Tryz.underlying29) rfl rfl (by decide) ?_
      refine wl_q (OpQ.to (q_bin rfl rfl rfl rfl) (congrArg Value.bool (show decide _ = false by rw [decide_eq_false_iff_not]; omega))) rfl rfl (by decide) ?_
      refine wl_nil ?_
      refine fq_then ?_
      refine wc_false rfl ?_
      refine wc_exit ?_
      refine fq_then_exit ?_
      refine fq_then_exit ?_
      refine fq_block_hit ?_
      refine fq_then ?_
      refine wc_seq ?_
      refine wc_region ?_
      refine wl_q (q_move rfl rfl) rfl rfl (by decide) ?_
      refine wl_q (q_fa (o1 := 4) rfl rfl Fo31_4 rfl) rfl rfl (by decide) ?_
      refine wl_store (i := 1) rfl rfl rfl rfl rfl rfl Sz29 rfl rfl (by simp) (by simp [Value.oneCell', Sx.spl]) (by first | (simp only [List.take_succ_cons, List.take_zero, List.take_nil, List.drop_succ_cons, List.drop_zero, List.drop_nil, List.nil_append, List.cons_append, List.append_nil, List.length_cons, List.length_nil, Nat.reduceAdd, Nat.zero_add]; rfl) | rfl) (by first | (simp only [List.set_cons_zero, List.set_cons_succ]; rfl) | rfl) ?_
      refine wl_nil ?_
      refine fq_then ?_
      refine wc_seq ?_
      refine wc_any Fol (any_drawG (ι := Gh) 16 0 [(4, fun X => [Sx.Item.own 0 45 3 (.slice (X 4).1 (l.filterMap norm).length (X 4).2) (l.filterMap norm).length (((l.filterMap norm).map to45).flatMap c45)])] [⟨[], [], []⟩, ⟨[], [], []⟩, ⟨[], [], []⟩, ⟨[], [], []⟩, ⟨[], [], []⟩, ⟨[], [], []⟩, ⟨[], [4], [4]⟩, ⟨[], [], [4]⟩, ⟨[], [], [4]⟩, ⟨[], [4], [4]⟩, ⟨[], [4], [4]⟩, ⟨[], [4], [4]⟩, ⟨[], [4], [4]⟩, ⟨[], [], [4]⟩, ⟨[], [], [4]⟩, ⟨[], [], [4]⟩] (by kernel_rfl) (ChainG.yield [] [] (fun X => q_move rfl rfl) rfl rfl (fun _ => rfl) (fun _ _ => rfl) (fun X Y h0 h => ⟨by first | rfl | simp only [h0], by first | rfl | simp only [h0]⟩) (ChainG.yield [] [] (fun X => OpQ.to (q_bin rfl rfl rfl rfl) (congrArg Value.bool (by rfl))) rfl rfl (fun _ => rfl) (fun _ _ => rfl) (fun X Y h0 h => ⟨by first | rfl | simp only [h0], by first | rfl | simp only [h0]⟩) (ChainG.yield [] [] (fun X => q_move rfl rfl) rfl rfl (fun _ => rfl) (fun _ _ => rfl) (fun X Y h0 h => ⟨by first | rfl | simp only [h0], by first | rfl | simp only [h0]⟩) (ChainG.wantq (b := true) [] [] (fun X => q_loadA rfl rfl Mn25 Sz25 rfl (reads_blkA (by simp) fb_b3)) rfl rfl (fun _ => rfl) rfl (fun _ => rfl) (fun _ _ => rfl) (fun X Y h0 h => ⟨by first | rfl | simp only [h0], by first | rfl | simp only [h0]⟩) (ChainG.opew (b := true) (fun (X : Nat → Gh) => .agg #[.bool m, .bool g, .int .i64 c, .int .u64 b, .slice (X 4).1 (l.filterMap norm).length (X 4).2]) [] [] (fun X => oe_call rfl En10 rfl (fun R w1 hw1 => (of_calls m g c b p1 (l.filterMap norm) w1 (hE_p1.below (hw1.toBelow (by simp))) (by (have := List.length_filterMap_le norm l); omega)).mono (fun e w' ⟨i, h1, h2⟩ => ⟨i, h1, hw1.lift1 h2⟩))) rfl rfl (fun _ => rfl) rfl (fun X Y h0 h => ⟨by first | rfl | (show (.agg #[.bool m, .bool g, .int .i64 c, .int .u64 b, .slice (X 4).1 (l.filterMap norm).length (X 4).2] : Value) = .agg #[.bool m, .bool g, .int .i64 c, .int .u64 b, .slice (Y 4).1 (l.filterMap norm).length (Y 4).2]; simp only [h0]), by first | rfl | (show ([Sx.Item.own 0 45 3 (.slice (X 4).1 (l.filterMap norm).length (X 4).2) (l.filterMap norm).length (((l.filterMap norm).map to45).flatMap c45)] : List Sx.Item) = [Sx.Item.own 0 45 3 (.slice (Y 4).1 (l.filterMap norm).length (Y 4).2) (l.filterMap norm).length (((l.filterMap norm).map to45).flatMap c45)]; simp only [h0])⟩) (ChainG.wantq (b := true) [] [] (fun X => q_loadA rfl rfl Mn31 Sz31 rfl (readsAll (i := 1) rfl)) rfl rfl (fun _ => rfl) rfl (fun _ => rfl) (fun _ _ => rfl) (fun X Y h0 h => ⟨by first | rfl | simp only [h0], by first | rfl | simp only [h0]⟩) (ChainG.wantq (b := true) [4] [4] (fun X => q_call rfl En13 rfl (fun w1 hw1 => same_calls m g c b ((X 4).1, (X 4).2) p (l.filterMap norm) w1 (own45 (hw1.get (i := 0) rfl) (by (have := List.length_filterMap_le norm l); omega)) (rowQ_of (hw1.get (i := 1) rfl) (by rw [List.length_map]) (by rw [List.length_map]; (have := List.length_filterMap_le norm l); omega)) (by (have := List.length_filterMap_le norm l); omega))) rfl rfl (fun _ => rfl) rfl (fun _ => rfl) (fun _ _ => rfl) (fun X Y h0 h => ⟨by first | rfl | simp only [h0, h 4 (by decide)], by first | rfl | simp only [h0, h 4 (by decide)]⟩) (ChainG.yield [] [4] (fun X => q_pick rfl rfl rfl) rfl rfl (fun _ => rfl) (fun _ _ => rfl) (fun X Y h0 h => ⟨by first | rfl | simp only [h0, h 4 (by decide)], by first | rfl | simp only [h0, h 4 (by decide)]⟩) (ChainG.yield [] [4] (fun X => q_move rfl rfl) rfl rfl (fun _ => rfl) (fun _ _ => rfl) (fun X Y h0 h => ⟨by first | rfl | simp only [h0, h 4 (by decide)], by first | rfl | simp only [h0, h 4 (by decide)]⟩) (ChainG.wantq (b := true) [4] [4] (fun X => q_loadA rfl rfl Mn25 Sz25 rfl (reads_blkA (by simp) fb_b3)) rfl rfl (fun _ => rfl) rfl (fun _ => rfl) (fun _ _ => rfl) (fun X Y h0 h => ⟨by first | rfl | simp only [h0, h 4 (by decide)], by first | rfl | simp only [h0, h 4 (by decide)]⟩) (ChainG.wantq (b := true) [4] [4] (fun X => q_call rfl En8 rfl (fun w1 hw1 => put_calls m g c b p1 (l.filterMap norm) w1 (hL.below (hw1.toBelow (by simp))) (hE_p1.below (hw1.toBelow (by simp))) hc hb (by (have := List.length_filterMap_le norm l); omega) (norm_rng he))) rfl rfl (fun _ => rfl) rfl (fun _ => rfl) (fun _ _ => rfl) (fun X Y h0 h => ⟨by first | rfl | simp only [h0, h 4 (by decide)], by first | rfl | simp only [h0, h 4 (by decide)]⟩) (ChainG.wantq (b := true) [4] [4] (fun X => q_loadA rfl rfl Mn25 Sz25 rfl (reads_blkA (by simp) fb_b1)) rfl rfl (fun _ => rfl) rfl (fun _ => rfl) (fun _ _ => rfl) (fun X Y h0 h => ⟨by first | rfl | simp only [h0, h 4 (by decide)], by first | rfl | simp only [h0, h 4 (by decide)]⟩) (ChainG.wantq (b := true) [4] [4] (fun X => q_call rfl En8 rfl (fun w1 hw1 => put_calls m g c b q l w1 (hL.below (hw1.toBelow (by simp))) (hr.below (hw1.toBelow (by simp))) hc hb (by omega) he)) rfl rfl (fun _ => rfl) rfl (fun _ => rfl) (fun _ _ => rfl) (fun X Y h0 h => ⟨by first | rfl | simp only [h0, h 4 (by decide)], by first | rfl | simp only [h0, h 4 (by decide)]⟩) (ChainG.wantq (b := true) [] [4] (fun X => q_eqlStr (c := true) rfl (.inl ⟨rfl, show ((putS m g c b (l.filterMap norm)).toList == (putS m g c b l).toList) = true by rw [put_norm]; exact beq_self_eq_true _⟩) rfl rfl (fun w => rfl)) rfl rfl (fun _ => rfl) rfl (fun _ => rfl) (fun _ _ => rfl) (fun X Y h0 h => ⟨by first | rfl | simp only [h0, h 4 (by decide)], by first | rfl | simp only [h0, h 4 (by decide)]⟩) (ChainG.yield [] [4] (fun X => q_pick rfl rfl rfl) rfl rfl (fun _ => rfl) (fun _ _ => rfl) (fun X Y h0 h => ⟨by first | rfl | simp only [h0, h 4 (by decide)], by first | rfl | simp only [h0, h 4 (by decide)]⟩) (ChainG.yield [] [4] (fun X => q_assign rfl rfl) rfl rfl (fun _ => rfl) (fun _ _ => rfl) (fun X Y h0 h => ⟨by first | rfl | simp only [h0, h 4 (by decide)], by first | rfl | simp only [h0, h 4 (by decide)]⟩) (ChainG.nil _ _))))))))))))))))) rfl rfl (fun X => [_, _, _, _]) (fun _ => rfl) (fun X => ?_))
      generalize X 4 = og
      refine wl_nil ?_
      refine fq_then ?_
      refine wc_ret ?_
      refine fq_ret1 rfl rfl (fun w1 H => ?_)
      exact ⟨rfl, (by first | exact hB.next (H.toBelow (by simp)) | exact H.toBelow (by simp))⟩
    · skip
      obtain ⟨hle, hf⟩ := evAt_some hev
      have hil := (List.getElem?_eq_some_iff.1 hle).1
      have hle2 : (l.map to45)[j]? = some (to45 e) := by rw [List.getElem?_map, hle]; rfl
      obtain ⟨ad, hA, hcev⟩ := hQ_wt.at hle2
      have hnl : L.length ≤ l.length := by rw [hL_]; exact nrmL_le l j
      have hwj := wrap_nat (n := j) (by omega)
      refine wc_seq ?_
      refine wc_seq ?_
      refine wc_region ?_
      refine wl_q (q_move rfl rfl) rfl rfl (by decide) ?_
      refine wl_q (q_fa (o1 := 4) rfl rfl Fo31_4 rfl) rfl rfl (by decide) ?_
      refine wl_q (q_load rfl rfl Mn29 (reads1 (i := 1) rfl rfl)) rfl rfl (by decide) ?_
      refine wl_q (q_len rfl rfl Tryz.underlying29) rfl rfl (by decide) ?_
      refine wl_q (OpQ.to (q_bin rfl rfl rfl rfl) (congrArg Value.bool (show decide _ = true by rw [decide_eq_true_eq]; omega))) rfl rfl (by decide) ?_
      refine wl_nil ?_
      refine fq_then ?_
      refine wc_true rfl ?_
      refine wc_skip ?_
      refine fq_then ?_
      refine wc_seq ?_
      refine wc_block ?_
      refine wc_seq ?_
      refine wc_region ?_
      refine wl_q (q_fa (o1 := 4) rfl rfl Fo31_4 rfl) rfl rfl (by decide) ?_
      refine wl_q (q_load rfl rfl Mn29 (reads1 (i := 1) rfl rfl)) rfl rfl (by decide) ?_
      refine wl_q (q_move rfl rfl) rfl rfl (by decide) ?_
      refine wl_q (q_indexO rfl rfl hA rfl Tryz.underlying29 Sz45 (by omega) (by omega)) rfl rfl (by decide) ?_
      refine wl_q (q_loadA rfl rfl Mn45 Sz45 rfl (reads_old (cs := [.int .i64 e.f0, .int .i64 e.f1, .int .i64 e.f2]) (by simp) hcev)) rfl rfl (by decide) ?_
      refine wl_alloc rfl rfl rfl (by decide) Zr45 (fun b6 => ?_)
      refine wl_store (i := 0) rfl rfl rfl rfl rfl rfl Sz45 rfl rfl (by simp) (by simp [Value.oneCell', Sx.spl]) (by first | (simp only [List.take_succ_cons, List.take_zero, List.take_nil, List.drop_succ_cons, List.drop_zero, List.drop_nil, List.nil_append, List.cons_append, List.append_nil, List.length_cons, List.length_nil, Nat.reduceAdd, Nat.zero_add]; rfl) | rfl) (by first | (simp only [List.set_cons_zero, List.set_cons_succ]; rfl) | rfl) ?_
      refine wl_nil ?_
      refine fq_then ?_
      refine wc_seq ?_
      refine wc_region ?_
      refine wl_q (q_fa (o1 := 0) rfl rfl Fo45_0 rfl) rfl rfl (by decide) ?_
      refine wl_q (q_load rfl rfl Mn3 (reads1 (i := 0) rfl rfl)) rfl rfl (by decide) ?_
      refine wl_q (q_call rfl En14 rfl (fun w1 hw1 => kindQ hf w1)) rfl rfl (by decide) ?_
      refine wl_q (q_move rfl rfl) rfl rfl (by decide) ?_
      refine wl_q (q_extract rfl rfl rfl) rfl rfl (by decide) ?_
      refine wl_q (q_extract rfl rfl rfl) rfl rfl (by decide) ?_
      refine wl_q (q_extract rfl rfl rfl) rfl rfl (by decide) ?_
      refine wl_q (q_assign rfl rfl) rfl rfl (by decide) ?_
      refine wl_q (q_assign rfl rfl) rfl rfl (by decide) ?_
      refine wl_q (q_assign rfl rfl) rfl rfl (by decide) ?_
      refine wl_nil ?_
      refine fq_then ?_
      refine wc_seq ?_
      refine wc_seq ?_
      refine wc_region ?_
      refine wl_q (q_move rfl rfl) rfl rfl (by decide) ?_
      refine wl_q (q_eqlStr (c := true) rfl (.inl ⟨rfl, by simp⟩) rfl rfl (fun w => rfl)) rfl rfl (by decide) ?_
      refine wl_nil ?_
      refine fq_then ?_
      refine wc_true rfl ?_
      refine wc_exit ?_
      refine fq_then_exit ?_
      refine fq_block_hit ?_
      refine fq_then ?_
      refine wc_region ?_
      refine wl_q (q_move rfl rfl) rfl rfl (by decide) ?_
      refine wl_q (q_bin rfl rfl rfl rfl) rfl rfl (by decide) ?_
      refine wl_q (q_assign rfl rfl) rfl rfl (by decide) ?_
      refine wl_nil ?_
      skip
      refine fq_next (j + 1, n, L, p) ⟨by omega, hn, by rw [nrmL_none hle hf]; exact hL_⟩ (show l.length - (j + 1) < l.length - j by omega) ⟨List.forall_mem_cons.2 ⟨rfl, List.forall_mem_cons.2 ⟨rfl, List.forall_mem_cons.2 ⟨rfl, List.forall_mem_cons.2 ⟨rfl, List.forall_mem_cons.2 ⟨rfl, List.forall_mem_cons.2 ⟨(show some (Value.int .i64 (IntKind.i64.wrap ((j : Int) + 1))) = some (Value.int .i64 ((j + 1 : Nat) : Int)) from by rw [hwj]), fun _ h => (by cases h)⟩⟩⟩⟩⟩⟩, List.Sublist.cons _ (List.Sublist.cons_cons _ (List.Sublist.cons_cons _ (List.Sublist.cons_cons _ (List.Sublist.refl []))))⟩
    · skip
      obtain ⟨hle, hf⟩ := evAt_some hev
      have hil := (List.getElem?_eq_some_iff.1 hle).1
      have hle2 : (l.map to45)[j]? = some (to45 e) := by rw [List.getElem?_map, hle]; rfl
      obtain ⟨ad, hA, hcev⟩ := hQ_wt.at hle2
      have hnl : L.length ≤ l.length := by rw [hL_]; exact nrmL_le l j
      have hwj := wrap_nat (n := j) (by omega)
      refine wc_seq ?_
      refine wc_seq ?_
      refine wc_region ?_
      refine wl_q (q_move rfl rfl) rfl rfl (by decide) ?_
      refine wl_q (q_fa (o1 := 4) rfl rfl Fo31_4 rfl) rfl rfl (by decide) ?_
      refine wl_q (q_load rfl rfl Mn29 (reads1 (i := 1) rfl rfl)) rfl rfl (by decide) ?_
      refine wl_q (q_len rfl rfl Tryz.underlying29) rfl rfl (by decide) ?_
      refine wl_q (OpQ.to (q_bin rfl rfl rfl rfl) (congrArg Value.bool (show decide _ = true by rw [decide_eq_true_eq]; omega))) rfl rfl (by decide) ?_
      refine wl_nil ?_
      refine fq_then ?_
      refine wc_true rfl ?_
      refine wc_skip ?_
      refine fq_then ?_
      refine wc_seq ?_
      refine wc_block ?_
      refine wc_seq ?_
      refine wc_region ?_
      refine wl_q (q_fa (o1 := 4) rfl rfl Fo31_4 rfl) rfl rfl (by decide) ?_
      refine wl_q (q_load rfl rfl Mn29 (reads1 (i := 1) rfl rfl)) rfl rfl (by decide) ?_
      refine wl_q (q_move rfl rfl) rfl rfl (by decide) ?_
      refine wl_q (q_indexO rfl rfl hA rfl Tryz.underlying29 Sz45 (by omega) (by omega)) rfl rfl (by decide) ?_
      refine wl_q (q_loadA rfl rfl Mn45 Sz45 rfl (reads_old (cs := [.int .i64 e.f0, .int .i64 e.f1, .int .i64 e.f2]) (by simp) hcev)) rfl rfl (by decide) ?_
      refine wl_alloc rfl rfl rfl (by decide) Zr45 (fun b7 => ?_)
      refine wl_store (i := 0) rfl rfl rfl rfl rfl rfl Sz45 rfl rfl (by simp) (by simp [Value.oneCell', Sx.spl]) (by first | (simp only [List.take_succ_cons, List.take_zero, List.take_nil, List.drop_succ_cons, List.drop_zero, List.drop_nil, List.nil_append, List.cons_append, List.append_nil, List.length_cons, List.length_nil, Nat.reduceAdd, Nat.zero_add]; rfl) | rfl) (by first | (simp only [List.set_cons_zero, List.set_cons_succ]; rfl) | rfl) ?_
      refine wl_nil ?_
      refine fq_then ?_
      refine wc_seq ?_
      refine wc_region ?_
      refine wl_q (q_fa (o1 := 0) rfl rfl Fo45_0 rfl) rfl rfl (by decide) ?_
      refine wl_q (q_load rfl rfl Mn3 (reads1 (i := 0) rfl rfl)) rfl rfl (by decide) ?_
      refine wl_q (q_call rfl En14 rfl (fun w1 hw1 => kindQ hf w1)) rfl rfl (by decide) ?_
      refine wl_q (q_move rfl rfl) rfl rfl (by decide) ?_
      refine wl_q (q_extract rfl rfl rfl) rfl rfl (by decide) ?_
      refine wl_q (q_extract rfl rfl rfl) rfl rfl (by decide) ?_
      refine wl_q (q_extract rfl rfl rfl) rfl rfl (by decide) ?_
      refine wl_q (q_assign rfl rfl) rfl rfl (by decide) ?_
      refine wl_q (q_assign rfl rfl) rfl rfl (by decide) ?_
      refine wl_q (q_assign rfl rfl) rfl rfl (by decide) ?_
      refine wl_nil ?_
      refine fq_then ?_
      refine wc_seq ?_
      refine wc_seq ?_
      refine wc_region ?_
      refine wl_q (q_move rfl rfl) rfl rfl (by decide) ?_
      refine wl_q (q_eqlStr (c := false) rfl (.inl ⟨rfl, show (wd.toList == (⟨#[]⟩ : ByteArray).toList) = false by (have h_ := formAt_ne hf); rw [beq_eq_false_iff_ne]; simpa using h_⟩) rfl rfl (fun w => rfl)) rfl rfl (by decide) ?_
      refine wl_nil ?_
      refine fq_then ?_
      refine wc_false rfl ?_
      refine wc_skip ?_
      refine fq_then ?_
      refine wc_seq ?_
      refine wc_seq ?_
      refine wc_region ?_
      refine wl_q (q_move rfl rfl) rfl rfl (by decide) ?_
      refine wl_q (q_not rfl rfl) rfl rfl (by decide) ?_
      refine wl_nil ?_
      refine fq_then ?_
      refine wc_cond rfl (fun h50 => ?_) (fun h50 => ?_)
      · skip
        have q50 := h50
        try simp only [decide_eq_true_eq, decide_eq_false_iff_not, beq_iff_eq, beq_eq_false_iff_ne, bne_iff_ne, ne_eq, bne_eq_false_iff_eq, Int.not_lt, Int.not_le] at q50
        have hc1 : c1 = false := by simpa using h50
        subst hc1
        refine wc_region ?_
        refine wl_q (q_fa (o1 := 1) rfl rfl Fo45_1 rfl) rfl rfl (by decide) ?_
        refine wl_store (i := 0) rfl rfl rfl rfl rfl rfl Sz3 rfl rfl (by simp) (by simp [Value.oneCell', Sx.spl]) (by first | (simp only [List.take_succ_cons, List.take_zero, List.take_nil, List.drop_succ_cons, List.drop_zero, List.drop_nil, List.nil_append, List.cons_append, List.append_nil, List.length_cons, List.length_nil, Nat.reduceAdd, Nat.zero_add]; rfl) | rfl) (by first | (simp only [List.set_cons_zero, List.set_cons_succ]; rfl) | rfl) ?_
        refine wl_nil ?_
        refine fq_then ?_
        refine wc_seq ?_
        refine wc_seq ?_
        refine wc_region ?_
        refine wl_q (q_move rfl rfl) rfl rfl (by decide) ?_
        refine wl_q (q_not rfl rfl) rfl rfl (by decide) ?_
        refine wl_nil ?_
        refine fq_then ?_
        refine wc_cond rfl (fun h53 => ?_) (fun h53 => ?_)
        · skip
          have q53 := h53
          try simp only [decide_eq_true_eq, decide_eq_false_iff_not, beq_iff_eq, beq_eq_false_iff_ne, bne_iff_ne, ne_eq, bne_eq_false_iff_eq, Int.not_lt, Int.not_le] at q53
          have hn1 : n1 = false := by simpa using h53
          subst hn1
          refine wc_region ?_
          refine wl_q (q_fa (o1 := 2) rfl rfl Fo45_2 rfl) rfl rfl (by decide) ?_
          refine wl_store (i := 0) rfl rfl rfl rfl rfl rfl Sz3 rfl rfl (by simp) (by simp [Value.oneCell', Sx.spl]) (by first | (simp only [List.take_succ_cons, List.take_zero, List.take_nil, List.drop_succ_cons, List.drop_zero, List.drop_nil, List.nil_append, List.cons_append, List.append_nil, List.length_cons, List.length_nil, Nat.reduceAdd, Nat.zero_add]; rfl) | rfl) (by first | (simp only [List.set_cons_zero, List.set_cons_succ]; rfl) | rfl) ?_
          refine wl_nil ?_
          refine fq_then ?_
          refine wc_region ?_
          refine wl_q (q_move rfl rfl) rfl rfl (by decide) ?_
          refine wl_q (q_loadA rfl rfl Mn45 Sz45 rfl (readsAll (i := 0) rfl)) rfl rfl (by decide) ?_
          refine wl_buildSlice rfl rfl rfl (by decide) rfl Tryz.underlying29 (built_one Sz45 (by decide) Zs45 (by decide) rfl rfl) (fun b8 => ?_)
          refine wl_append (i := 2) (m := 1) (news := [.int .i64 e.f0, .int .i64 0, .int .i64 0]) rfl rfl rfl (by decide) Tryz.underlying29 Ap45 (by decide) rfl rfl rfl (readsAll (i := 0) rfl) rfl (by simp [Value.oneCell']) (by unfold maxLen; omega) (by omega) (fun v58 _ => ?_)
          refine wl_ownForm (i := 2) rfl (fun A58 c58 e58 f58 => ?_)
          subst e58
          skip
          refine wl_q (q_assign rfl rfl) rfl rfl (by decide) ?_
          refine wl_nil ?_
          refine fq_block ?_
          refine fq_then ?_
          refine wc_region ?_
          refine wl_q (q_move rfl rfl) rfl rfl (by decide) ?_
          refine wl_q (q_bin rfl rfl rfl rfl) rfl rfl (by decide) ?_
          refine wl_q (q_assign rfl rfl) rfl rfl (by decide) ?_
          refine wl_nil ?_
          refine fq_ownEq 2 (v' := .slice A58 (n + 1) c58) (n' := n + 1) (xs' := (L ++ [(⟨e.f0, 0, 0⟩ : S45)]).flatMap c45) rfl rfl rfl (by rw [List.flatMap_append]; rfl) ?_
          refine fq_next (j + 1, n + 1, L ++ [⟨e.f0, 0, 0⟩], (A58, c58)) ⟨by omega, by simp [hn], by (rw [nrmL_some hle hf, hL_]; simp)⟩ (show l.length - (j + 1) < l.length - j by omega) ⟨List.forall_mem_cons.2 ⟨rfl, List.forall_mem_cons.2 ⟨rfl, List.forall_mem_cons.2 ⟨rfl, List.forall_mem_cons.2 ⟨rfl, List.forall_mem_cons.2 ⟨rfl, List.forall_mem_cons.2 ⟨(show some (Value.int .i64 (IntKind.i64.wrap ((j : Int) + 1))) = some (Value.int .i64 ((j + 1 : Nat) : Int)) from by rw [hwj]), fun _ h => (by cases h)⟩⟩⟩⟩⟩⟩, List.Sublist.cons _ (List.Sublist.cons _ (List.Sublist.cons_cons _ (List.Sublist.cons_cons _ (List.Sublist.cons_cons _ (List.Sublist.refl [])))))⟩
        · skip
          have q53 := h53
          try simp only [decide_eq_true_eq, decide_eq_false_iff_not, beq_iff_eq, beq_eq_false_iff_ne, bne_iff_ne, ne_eq, bne_eq_false_iff_eq, Int.not_lt, Int.not_le] at q53
          have hn1 : n1 = true := by simpa using h53
          subst hn1
          refine wc_skip ?_
          refine fq_then ?_
          refine wc_region ?_
          refine wl_q (q_move rfl rfl) rfl rfl (by decide) ?_
          refine wl_q (q_loadA rfl rfl Mn45 Sz45 rfl (readsAll (i := 0) rfl)) rfl rfl (by decide) ?_
          refine wl_buildSlice rfl rfl rfl (by decide) rfl Tryz.underlying29 (built_one Sz45 (by decide) Zs45 (by decide) rfl rfl) (fun b9 => ?_)
          refine wl_append (i := 2) (m := 1) (news := [.int .i64 e.f0, .int .i64 0, .int .i64 e.f2]) rfl rfl rfl (by decide) Tryz.underlying29 Ap45 (by decide) rfl rfl rfl (readsAll (i := 0) rfl) rfl (by simp [Value.oneCell']) (by unfold maxLen; omega) (by omega) (fun v58 _ => ?_)
          refine wl_ownForm (i := 2) rfl (fun A58 c58 e58 f58 => ?_)
          subst e58
          skip
          refine wl_q (q_assign rfl rfl) rfl rfl (by decide) ?_
          refine wl_nil ?_
          refine fq_block ?_
          refine fq_then ?_
          refine wc_region ?_
          refine wl_q (q_move rfl rfl) rfl rfl (by decide) ?_
          refine wl_q (q_bin rfl rfl rfl rfl) rfl rfl (by decide) ?_
          refine wl_q (q_assign rfl rfl) rfl rfl (by decide) ?_
          refine wl_nil ?_
          refine fq_ownEq 2 (v' := .slice A58 (n + 1) c58) (n' := n + 1) (xs' := (L ++ [(⟨e.f0, 0, e.f2⟩ : S45)]).flatMap c45) rfl rfl rfl (by rw [List.flatMap_append]; rfl) ?_
          refine fq_next (j + 1, n + 1, L ++ [⟨e.f0, 0, e.f2⟩], (A58, c58)) ⟨by omega, by simp [hn], by (rw [nrmL_some hle hf, hL_]; simp)⟩ (show l.length - (j + 1) < l.length - j by omega) ⟨List.forall_mem_cons.2 ⟨rfl, List.forall_mem_cons.2 ⟨rfl, List.forall_mem_cons.2 ⟨rfl, List.forall_mem_cons.2 ⟨rfl, List.forall_mem_cons.2 ⟨rfl, List.forall_mem_cons.2 ⟨(show some (Value.int .i64 (IntKind.i64.wrap ((j : Int) + 1))) = some (Value.int .i64 ((j + 1 : Nat) : Int)) from by rw [hwj]), fun _ h => (by cases h)⟩⟩⟩⟩⟩⟩, List.Sublist.cons _ (List.Sublist.cons _ (List.Sublist.cons_cons _ (List.Sublist.cons_cons _ (List.Sublist.cons_cons _ (List.Sublist.refl [])))))⟩
      · skip
        have q50 := h50
        try simp only [decide_eq_true_eq, decide_eq_false_iff_not, beq_iff_eq, beq_eq_false_iff_ne, bne_iff_ne, ne_eq, bne_eq_false_iff_eq, Int.not_lt, Int.not_le] at q50
        have hc1 : c1 = true := by simpa using h50
        subst hc1
        refine wc_skip ?_
        refine fq_then ?_
        refine wc_seq ?_
        refine wc_seq ?_
        refine wc_region ?_
        refine wl_q (q_move rfl rfl) rfl rfl (by decide) ?_
        refine wl_q (q_not rfl rfl) rfl rfl (by decide) ?_
        refine wl_nil ?_
        refine fq_then ?_
        refine wc_cond rfl (fun h53 => ?_) (fun h53 => ?_)
        · skip
          have q53 := h53
          try simp only [decide_eq_true_eq, decide_eq_false_iff_not, beq_iff_eq, beq_eq_false_iff_ne, bne_iff_ne, ne_eq, bne_eq_false_iff_eq, Int.not_lt, Int.not_le] at q53
          have hn1 : n1 = false := by simpa using h53
          subst hn1
          refine wc_region ?_
          refine wl_q (q_fa (o1 := 2) rfl rfl Fo45_2 rfl) rfl rfl (by decide) ?_
          refine wl_store (i := 0) rfl rfl rfl rfl rfl rfl Sz3 rfl rfl (by simp) (by simp [Value.oneCell', Sx.spl]) (by first | (simp only [List.take_succ_cons, List.take_zero, List.take_nil, List.drop_succ_cons, List.drop_zero, List.drop_nil, List.nil_append, List.cons_append, List.append_nil, List.length_cons, List.length_nil, Nat.reduceAdd, Nat.zero_add]; rfl) | rfl) (by first | (simp only [List.set_cons_zero, List.set_cons_succ]; rfl) | rfl) ?_
          refine wl_nil ?_
          refine fq_then ?_
          refine wc_region ?_
          refine wl_q (q_move rfl rfl) rfl rfl (by decide) ?_
          refine wl_q (q_loadA rfl rfl Mn45 Sz45 rfl (readsAll (i := 0) rfl)) rfl rfl (by decide) ?_
          refine wl_buildSlice rfl rfl rfl (by decide) rfl Tryz.underlying29 (built_one Sz45 (by decide) Zs45 (by decide) rfl rfl) (fun b10 => ?_)
          refine wl_append (i := 2) (m := 1) (news := [.int .i64 e.f0, .int .i64 e.f1, .int .i64 0]) rfl rfl rfl (by decide) Tryz.underlying29 Ap45 (by decide) rfl rfl rfl (readsAll (i := 0) rfl) rfl (by simp [Value.oneCell']) (by unfold maxLen; omega) (by omega) (fun v58 _ => ?_)
          refine wl_ownForm (i := 2) rfl (fun A58 c58 e58 f58 => ?_)
          subst e58
          skip
          refine wl_q (q_assign rfl rfl) rfl rfl (by decide) ?_
          refine wl_nil ?_
          refine fq_block ?_
          refine fq_then ?_
          refine wc_region ?_
          refine wl_q (q_move rfl rfl) rfl rfl (by decide) ?_
          refine wl_q (q_bin rfl rfl rfl rfl) rfl rfl (by decide) ?_
          refine wl_q (q_assign rfl rfl) rfl rfl (by decide) ?_
          refine wl_nil ?_
          refine fq_ownEq 2 (v' := .slice A58 (n + 1) c58) (n' := n + 1) (xs' := (L ++ [(⟨e.f0, e.f1, 0⟩ : S45)]).flatMap c45) rfl rfl rfl (by rw [List.flatMap_append]; rfl) ?_
          refine fq_next (j + 1, n + 1, L ++ [⟨e.f0, e.f1, 0⟩], (A58, c58)) ⟨by omega, by simp [hn], by (rw [nrmL_some hle hf, hL_]; simp)⟩ (show l.length - (j + 1) < l.length - j by omega) ⟨List.forall_mem_cons.2 ⟨rfl, List.forall_mem_cons.2 ⟨rfl, List.forall_mem_cons.2 ⟨rfl, List.forall_mem_cons.2 ⟨rfl, List.forall_mem_cons.2 ⟨rfl, List.forall_mem_cons.2 ⟨(show some (Value.int .i64 (IntKind.i64.wrap ((j : Int) + 1))) = some (Value.int .i64 ((j + 1 : Nat) : Int)) from by rw [hwj]), fun _ h => (by cases h)⟩⟩⟩⟩⟩⟩, List.Sublist.cons _ (List.Sublist.cons _ (List.Sublist.cons_cons _ (List.Sublist.cons_cons _ (List.Sublist.cons_cons _ (List.Sublist.refl [])))))⟩
        · skip
          have q53 := h53
          try simp only [decide_eq_true_eq, decide_eq_false_iff_not, beq_iff_eq, beq_eq_false_iff_ne, bne_iff_ne, ne_eq, bne_eq_false_iff_eq, Int.not_lt, Int.not_le] at q53
          have hn1 : n1 = true := by simpa using h53
          subst hn1
          refine wc_skip ?_
          refine fq_then ?_
          refine wc_region ?_
          refine wl_q (q_move rfl rfl) rfl rfl (by decide) ?_
          refine wl_q (q_loadA rfl rfl Mn45 Sz45 rfl (readsAll (i := 0) rfl)) rfl rfl (by decide) ?_
          refine wl_buildSlice rfl rfl rfl (by decide) rfl Tryz.underlying29 (built_one Sz45 (by decide) Zs45 (by decide) rfl rfl) (fun b11 => ?_)
          refine wl_append (i := 2) (m := 1) (news := [.int .i64 e.f0, .int .i64 e.f1, .int .i64 e.f2]) rfl rfl rfl (by decide) Tryz.underlying29 Ap45 (by decide) rfl rfl rfl (readsAll (i := 0) rfl) rfl (by simp [Value.oneCell']) (by unfold maxLen; omega) (by omega) (fun v58 _ => ?_)
          refine wl_ownForm (i := 2) rfl (fun A58 c58 e58 f58 => ?_)
          subst e58
          skip
          refine wl_q (q_assign rfl rfl) rfl rfl (by decide) ?_
          refine wl_nil ?_
          refine fq_block ?_
          refine fq_then ?_
          refine wc_region ?_
          refine wl_q (q_move rfl rfl) rfl rfl (by decide) ?_
          refine wl_q (q_bin rfl rfl rfl rfl) rfl rfl (by decide) ?_
          refine wl_q (q_assign rfl rfl) rfl rfl (by decide) ?_
          refine wl_nil ?_
          refine fq_ownEq 2 (v' := .slice A58 (n + 1) c58) (n' := n + 1) (xs' := (L ++ [(⟨e.f0, e.f1, e.f2⟩ : S45)]).flatMap c45) rfl rfl rfl (by rw [List.flatMap_append]; rfl) ?_
          refine fq_next (j + 1, n + 1, L ++ [⟨e.f0, e.f1, e.f2⟩], (A58, c58)) ⟨by omega, by simp [hn], by (rw [nrmL_some hle hf, hL_]; simp)⟩ (show l.length - (j + 1) < l.length - j by omega) ⟨List.forall_mem_cons.2 ⟨rfl, List.forall_mem_cons.2 ⟨rfl, List.forall_mem_cons.2 ⟨rfl, List.forall_mem_cons.2 ⟨rfl, List.forall_mem_cons.2 ⟨rfl, List.forall_mem_cons.2 ⟨(show some (Value.int .i64 (IntKind.i64.wrap ((j : Int) + 1))) = some (Value.int .i64 ((j + 1 : Nat) : Int)) from by rw [hwj]), fun _ h => (by cases h)⟩⟩⟩⟩⟩⟩, List.Sublist.cons _ (List.Sublist.cons _ (List.Sublist.cons_cons _ (List.Sublist.cons_cons _ (List.Sublist.cons_cons _ (List.Sublist.refl [])))))⟩
end Go.Proofs.YtglgipggefpoiaaGreatDoor.SF
end
section
namespace Go.Proofs.YtglgipggefpoiaaGreatDoor.Op
open Go.RowKit Go.Proofs.YtglgipggefpoiaaGreatDoorW.PrintWords
open Go.ChangeShapes Go.WideShapes
structure Opens {α : Type} (K : Kd α) (P : Program) (t : TypeId) (ok : α → Prop) : Prop where
  sz : P.cellsOf t = K.sz
  op : ∀ {H : Type} {enc : TypeId × Value → H} {w : World} {base : Nat} {spare : Nat → Bool} {held : Bool} {fuel : Nat} {cs : List Value} {x : DataW H × List MemPlace},
    DataW.trod enc P w base spare held fuel t cs = some x → ∃ a, K.K w a cs ∧ ok a
theorem Opens.int {P : Program} {t : TypeId} (k : IntKind) (ht : P.underlying t = some (.int k)) (hc : P.cellsOf t = 1) : Opens (Kd.int k) P t (fun n => (Lit.int k n).wf = true) :=
  ⟨hc, fun h => by obtain ⟨n, rfl, _, hw⟩ := DataW.trod_int ht h; exact ⟨n, rfl, hw⟩⟩
theorem Opens.bool {P : Program} {t : TypeId} (ht : P.underlying t = some .bool) (hc : P.cellsOf t = 1) : Opens Kd.bool P t (fun _ => True) :=
  ⟨hc, fun h => by obtain ⟨b, rfl, _⟩ := DataW.trod_bool ht h; exact ⟨b, rfl, trivial⟩⟩
theorem Opens.string {P : Program} {t : TypeId} (ht : P.underlying t = some .string) (hc : P.cellsOf t = 1) : Opens Kd.string P t (fun s => s.size ≤ maxLen) :=
  ⟨hc, fun h => by obtain ⟨s, rfl, _, hw⟩ := DataW.trod_string ht h; exact ⟨s, rfl, hw⟩⟩
theorem cells_at {w : World} {base : Nat} {a : Addr} {n : Nat} {cs : List Value} (h : w.cells? base a n = some cs) : cs.length = n ∧ ∀ i u, cs[i]? = some u → w.cell? (a.add i) = some u := by
  obtain ⟨_, hl, hc⟩ := World.cells?_some h
  refine ⟨hl, fun i u hu => ?_⟩
  have hi : i < n := by have := (List.getElem?_eq_some_iff.1 hu).1; omega
  rw [hc i hi, hu]
theorem Opens.slice {α : Type} {K : Kd α} {P : Program} {t e : TypeId} {ok : α → Prop} (ht : P.underlying t = some (.slice e)) (hc : P.cellsOf t = 1) (h : Opens K P e ok) :
    Opens (Kd.slice e K) P t (fun xs => xs.length ≤ maxLen ∧ ∀ x ∈ xs, ok x) := by
  refine ⟨hc, fun {H enc w base spare held fuel cs x} hx => ?_⟩
  rcases DataW.trod_slice ht hx with ⟨rfl, _⟩ | ⟨a, len, cap, elems, rest, n, _, rfl, _, _, hl, hm, hlen, hel, _, _⟩
  · exact ⟨[], ⟨none, 0, rfl, Nat.le_refl _, rfl, by simp, fun h0 => absurd h0 (by simp)⟩, by simp, by simp⟩
  · have each : ∀ i, i < len → ∃ a', ok a' ∧ ∃ cs, cs.length = K.sz ∧ K.K w a' cs ∧ ∀ j u, cs[j]? = some u → w.cell? (a.add (i * K.sz + j)) = some u := by
      intro i hi
      have h1 := hel i hi
      rw [List.getElem?_eq_getElem (by omega), Option.bind_eq_some_iff] at h1
      obtain ⟨cs', hcs, hy⟩ := h1
      obtain ⟨a', hk, ho⟩ := h.op hy
      obtain ⟨hlc, hcell⟩ := cells_at hcs
      refine ⟨a', ho, cs', by rw [hlc, h.sz], hk, fun j u hu => ?_⟩
      have := hcell j u hu
      rwa [h.sz, Addr.add_add] at this
    have pick : ∀ m, m ≤ len → ∃ xs : List α, xs.length = m ∧ (∀ x ∈ xs, ok x) ∧ ∀ i p, xs[i]? = some p → ∃ cs, cs.length = K.sz ∧ K.K w p cs ∧ ∀ j u, cs[j]? = some u → w.cell? (a.add (i * K.sz + j)) = some u := by
      intro m
      induction m with
      | zero => intro _; exact ⟨[], rfl, by simp, by simp⟩
      | succ m ih =>
        intro hm'
        obtain ⟨xs, hxl, hxo, hxc⟩ := ih (by omega)
        obtain ⟨a', ho, hcs⟩ := each m (by omega)
        refine ⟨xs ++ [a'], by simp [hxl], fun y hy => ?_, fun i p hp => ?_⟩
        · rcases List.mem_append.1 hy with hy | hy
          · exact hxo y hy
          · rw [List.mem_singleton.1 hy]; exact ho
        · by_cases hi : i < m
          · rw [List.getElem?_append_left (by omega)] at hp
            exact hxc i p hp
          · have : i = m := by
              have := (List.getElem?_eq_some_iff.1 hp).1
              simp [hxl] at this; omega
            subst this
            rw [List.getElem?_append_right (by omega), hxl] at hp
            simp at hp
            subst hp
            exact hcs
    obtain ⟨xs, hxl, hxo, hxc⟩ := pick len (Nat.le_refl _)
    refine ⟨xs, ⟨some a, cap, by rw [hxl], by omega, rfl, by unfold maxLen at hm; omega, fun _ => ⟨a, rfl, hxc⟩⟩, by omega, hxo⟩
end Go.Proofs.YtglgipggefpoiaaGreatDoor.Op
end
section
namespace Go.Proofs.YtglgipggefpoiaaGreatDoor.PAll
open Go.RowKit Go.Proofs.YtglgipggefpoiaaGreatDoorW.PrintWords Go.Proofs.YtglgipggefpoiaaGreatDoorW.PrintLast Go.Proofs.YtglgipggefpoiaaGreatDoorW.PrintMore
open Go.ChangeShapes Go.WideShapes
set_option linter.unusedVariables false
set_option linter.unusedSimpArgs false
set_option maxRecDepth 100000
theorem i64_wf {x : Int} (h : (Lit.int .i64 x).wf = true) : SF.i64r x := by
  have : -9223372036854775808 ≤ x ∧ x ≤ 9223372036854775807 := by simpa [Lit.wf, IntKind.min, IntKind.max, IntKind.signed, IntKind.bits] using h
  exact this
theorem u64_nat {x : Int} (h : (Lit.int .u64 x).wf = true) : ∃ b : Nat, x = b ∧ b < 18446744073709551616 := by
  have : 0 ≤ x ∧ x ≤ 18446744073709551615 := by simpa [Lit.wf, IntKind.min, IntKind.max, IntKind.signed, IntKind.bits] using h
  exact ⟨x.toNat, by omega, by omega⟩
theorem opens49 : Op.Opens k49 Tryz.prog 49 (fun e => SF.i64r e.f1 ∧ SF.i64r e.f2) := by
  refine ⟨by kernel_rfl, fun {H enc w base spare held fuel cs x} hx => ?_⟩
  obtain ⟨xs, n, _, _, hl, hlen, hf⟩ := DataW.trod_struct Tryz.underlying49 hx
  have hc3 : Tryz.prog.cellsOf 3 = 1 := by kernel_rfl
  have hc49 : Tryz.prog.cellsOf 49 = 3 := by kernel_rfl
  rw [hc49] at hl
  match cs, hl, xs, hlen with
  | [u, v, y], _, [x0, x1, x2], _ =>
    have f0 : DataW.trod enc Tryz.prog w base spare held n 3 (([u, v, y].drop 0).take (Tryz.prog.cellsOf 3)) = some x0 := hf 0 _ rfl
    have f1 : DataW.trod enc Tryz.prog w base spare held n 3 (([u, v, y].drop 1).take (Tryz.prog.cellsOf 3)) = some x1 := hf 1 _ rfl
    have f2 : DataW.trod enc Tryz.prog w base spare held n 3 (([u, v, y].drop 2).take (Tryz.prog.cellsOf 3)) = some x2 := hf 2 _ rfl
    rw [hc3] at f0 f1 f2
    obtain ⟨a, ea, _, _⟩ := DataW.trod_int Tryz.underlying3 (show DataW.trod enc Tryz.prog w base spare held n 3 [u] = some x0 from f0)
    obtain ⟨b, eb, _, wb⟩ := DataW.trod_int Tryz.underlying3 (show DataW.trod enc Tryz.prog w base spare held n 3 [v] = some x1 from f1)
    obtain ⟨c, ec, _, wc⟩ := DataW.trod_int Tryz.underlying3 (show DataW.trod enc Tryz.prog w base spare held n 3 [y] = some x2 from f2)
    simp only [List.cons.injEq, and_true] at ea eb ec
    subst ea; subst eb; subst ec
    exact ⟨⟨a, b, c⟩, k49_mk w _, i64_wf wb, i64_wf wc⟩
theorem in_open {H : Type} {enc : TypeId × Value → H} {w : World} {base : Nat} {spare : Nat → Bool} {held : Bool} {fuel : Nat} {cs : List Value} {x : DataW H × List MemPlace} (h : DataW.trod enc Tryz.prog w base spare held fuel 25 cs = some x) :
    ∃ (m g : Bool) (c : Int) (b : Nat) (A : Option Addr) (cap : Nat) (l : List S49), cs = [.bool m, .bool g, .int .i64 c, .int .u64 b, .slice A l.length cap] ∧ l.length ≤ cap ∧ Kd.C k49 w A l.length l ∧ SF.i64r c ∧ b < 18446744073709551616 ∧ ∀ e ∈ l, SF.i64r e.f1 ∧ SF.i64r e.f2 := by
  obtain ⟨xs, n, _, _, hl, hlen, hf⟩ := DataW.trod_struct Tryz.underlying25 h
  have hc3 : Tryz.prog.cellsOf 3 = 1 := by kernel_rfl
  have hc4 : Tryz.prog.cellsOf 4 = 1 := by kernel_rfl
  have hc22 : Tryz.prog.cellsOf 22 = 1 := by kernel_rfl
  have hc23 : Tryz.prog.cellsOf 23 = 1 := by kernel_rfl
  have hc25 : Tryz.prog.cellsOf 25 = 5 := by kernel_rfl
  rw [hc25] at hl
  match cs, hl, xs, hlen with
  | [u, v, y, z, q], _, [x0, x1, x2, x3, x4], _ =>
    have f0 : DataW.trod enc Tryz.prog w base spare held n 4 (([u, v, y, z, q].drop 0).take (Tryz.prog.cellsOf 4)) = some x0 := hf 0 _ rfl
    have f1 : DataW.trod enc Tryz.prog w base spare held n 4 (([u, v, y, z, q].drop 1).take (Tryz.prog.cellsOf 4)) = some x1 := hf 1 _ rfl
    have f2 : DataW.trod enc Tryz.prog w base spare held n 3 (([u, v, y, z, q].drop 2).take (Tryz.prog.cellsOf 3)) = some x2 := hf 2 _ rfl
    have f3 : DataW.trod enc Tryz.prog w base spare held n 22 (([u, v, y, z, q].drop 3).take (Tryz.prog.cellsOf 22)) = some x3 := hf 3 _ rfl
    have f4 : DataW.trod enc Tryz.prog w base spare held n 23 (([u, v, y, z, q].drop 4).take (Tryz.prog.cellsOf 23)) = some x4 := hf 4 _ rfl
    rw [hc4] at f0 f1
    rw [hc3] at f2
    rw [hc22] at f3
    rw [hc23] at f4
    obtain ⟨m, ea, _⟩ := DataW.trod_bool Tryz.underlying4 (show DataW.trod enc Tryz.prog w base spare held n 4 [u] = some x0 from f0)
    obtain ⟨g, eb, _⟩ := DataW.trod_bool Tryz.underlying4 (show DataW.trod enc Tryz.prog w base spare held n 4 [v] = some x1 from f1)
    obtain ⟨c, ec, _, wc⟩ := DataW.trod_int Tryz.underlying3 (show DataW.trod enc Tryz.prog w base spare held n 3 [y] = some x2 from f2)
    obtain ⟨d, ed, _, wd⟩ := DataW.trod_int Tryz.underlying22 (show DataW.trod enc Tryz.prog w base spare held n 22 [z] = some x3 from f3)
    simp only [List.cons.injEq, and_true] at ea eb ec ed
    subst ea; subst eb; subst ec; subst ed
    obtain ⟨l, ⟨A, cc, ez, hlc, hC⟩, _, hok⟩ := (Op.Opens.slice (K := k49) Tryz.underlying23 hc23 opens49).op (show DataW.trod enc Tryz.prog w base spare held n 23 [q] = some x4 from f4)
    simp only [List.cons.injEq, and_true] at ez
    subst ez
    obtain ⟨b, rfl, hb⟩ := u64_nat wd
    exact ⟨m, g, c, b, A, cc, l, rfl, hlc, hC, i64_wf wc, hb, hok⟩
end Go.Proofs.YtglgipggefpoiaaGreatDoor.PAll
end
section
namespace Go.Proofs.YtglgipggefpoiaaGreatDoor.SF
open Go.ChangeShapes Go.WideShapes Go.RowKit
set_option maxRecDepth 100000
set_option linter.unusedVariables false
theorem returns_shaped_and {H : Type} {enc : TypeId × Value → H} {a : Assume} {C : Checked} {os : Os} {f : FuncId} {fn : Func} {s : ChangeSpec} {conds : List PathCond} {apart fresh handsOn again : Bool} {X : World → Array Value → Prop}
    (hX : ∀ (w w' : World) (args : Array Value), w.heap = w'.heap → X w args → X w' args)
    (own : ownKnob C.prog.godebug = none) (started : os.Started) (noInit : C.prog.inits.idxOf? f = none) (hfn : C.prog.funcs[f]? = some fn)
    (witness : ∃ (w : World) (tape : Tape) (i : Input), w.os = os ∧ (w.forCall tape i).Shaped C.prog ∧ i.vars = [] ∧ Input.okWide C.prog (w.forCall tape i) .any w.heap.size f i ∧
      ((s.pre enc C.prog fn conds apart (w.forCall tape i).memory i.args ∧ X (w.forCall tape i).memory i.args) ∧ sizedMet enc C.prog fn (OpenSpec.ofChange s) apart (w.forCall tape i).memory i.args) ∧ a.holds C.prog (lone (Frame.enter C.prog f i.args .normal) [] (w.forCall tape i)))
    (contract : ∀ (W : World) (base : Nat) (args : Array Value) (ds gs : List (DataW H)) (before : List MemPlace),
      (∀ (j : Nat) t v, fn.params[j]? = some t → args[j]? = some v → Value.okWide C.prog W .any base t v) →
      DataW.Whole enc C.prog fn.params.toList s.vars apart W args.toList ds gs before →
      conds.all (PathCond.test C.prog ⟨fn.params.toList, ds, s.plain.varTypes C.prog, gs⟩) = true →
      (DataW.weightsEach C.prog (fn.params.toList ++ s.plain.varTypes C.prog) (ds ++ gs)).all (· ≤ reachBytes) = true → W.ShapedOpen C.prog → X W args →
      a.holds C.prog (lone (Frame.enter C.prog f args .normal) [] W) →
      Calls C.prog f args W fun e W' => ∃ v, e = .returned v ∧ s.post enc C.prog fn apart fresh handsOn again W args v W') :
    ReturnsInHanded a C os f .any (fun w args => (s.pre enc C.prog fn conds apart w args ∧ X w args) ∧ sizedMet enc C.prog fn (OpenSpec.ofChange s) apart w args) (s.post enc C.prog fn apart fresh handsOn again) := by
  refine returnsInHanded_of_calls own started noInit witness ?_
  intro w tape i _ hsh _ hok hpre hholds
  obtain ⟨_, _, _, fn', hfn', _, _, _, _, hval⟩ := hok
  obtain rfl : fn' = fn := Option.some.inj (hfn'.symm.trans hfn)
  obtain ⟨⟨⟨ds, gs, before, hw, hc⟩, hx⟩, hz⟩ := hpre
  have hw' := DataW.Whole.of_heap (w' := w.forCall tape i) (by rfl) hw
  refine (contract (w.forCall tape i) w.heap.size i.args ds gs before hval hw' hc (hz.weights hw) hsh (hX _ _ _ (by rfl) hx) hholds).mono fun e W' ⟨v, he, hp⟩ => ?_
  subst he
  exact ChangeSpec.post_blind hp
theorem pow_tab {W : World} (h : Lib.VarReads Tryz.prog W "internal/strconv.uint64pow10" Rows.laid_internal_strconv_uint64pow10) : Lib.TabIs Tryz.prog W "internal/strconv.uint64pow10" .u64 Lib.pow10Tab := by
  obtain ⟨g, t, cs, fuel, p, hg, ht, hv, hd⟩ := h
  obtain rfl := Option.some.inj ((show Tryz.prog.globalNamed "internal/strconv.uint64pow10" = some 1 by kernel_rfl).symm.trans hg)
  obtain rfl := Option.some.inj ((show (Tryz.prog.globals[1]?).map (·.type) = some 163 by kernel_rfl).symm.trans ht)
  have e : (Rows.laid_internal_strconv_uint64pow10 : DataW Unit) = Lib.tabData .u64 Lib.pow10Tab := rfl
  rw [e] at hd
  have := Lib.cells_of_tab Tryz.underlying163 (e := 22) (n := 20) (k := .u64) Tryz.underlying22 (by kernel_rfl) (by kernel_rfl) hd
  unfold Lib.TabIs
  rw [hv, ← this]
theorem err_var {W : World} {n nm : String} {d : DataW Unit} (h : Lib.VarReads Tryz.prog W n (.iface nm d)) {g : Nat} (hg0 : Tryz.prog.globalNamed n = some g) (ht0 : (Tryz.prog.globals[g]?).map (·.type) = some 70) : ∃ tp p, W.var? Tryz.prog n = some #[.iface tp p] := by
  obtain ⟨g, t, cs, fuel, p, hg, ht, hv, hd⟩ := h
  obtain rfl := Option.some.inj (hg0.symm.trans hg)
  obtain rfl := Option.some.inj (ht0.symm.trans ht)
  obtain ⟨f1, u, v, hc, _, _⟩ := iface_of_trod Tryz.underlying70 hd
  refine ⟨u, v, ?_⟩
  rw [hv]
  congr 1
  apply Array.ext'
  exact hc
theorem Lw_of {W : World} (h : laidMetH Tryz.prog Rows.scriptPutsRow.laid W) (hs : W.ShapedOpen Tryz.prog) : Lw W := by
  rw [MakeChecks.laidMetH_plain _ _ _ (by kernel_rfl)] at h
  refine ⟨pow_tab (Lib.laidMet.reads h (.tail _ (.tail _ (.head _)))), err_var (Lib.laidMet.reads h (.tail _ (.tail _ (.tail _ (.tail _ (.tail _ (.tail _ (.head _)))))))) (g := 2) (by kernel_rfl) (by kernel_rfl), err_var (Lib.laidMet.reads h (.tail _ (.tail _ (.tail _ (.tail _ (.tail _ (.head _))))))) (g := 3) (by kernel_rfl) (by kernel_rfl), ?_⟩
  exact cell_of_shapedOpen_int (g := 4) (t := 3) (zero := #[.int .i64 0]) hs (of_decide_eq_true (by kernel_rfl)) (by kernel_rfl) rfl (by kernel_rfl) (by kernel_rfl) Tryz.underlying3
end Go.Proofs.YtglgipggefpoiaaGreatDoor.SF
end
section
namespace Go.Proofs.YtglgipggefpoiaaGreatDoor.scriptBack
open Go.ChangeShapes Go.WideShapes Go.ChangeAt Go.RowKit Go.Proofs.YtglgipggefpoiaaGreatDoorW.PrintWords
open Go.ChangeMaps (open_string shut_string)
set_option linter.unusedVariables false
theorem own : ownKnob Tryz.prog.godebug = none := by kernel_rfl
theorem laidOut : laidOutB Tryz.prog = true := by kernel_rfl
set_option maxRecDepth 100000 in
theorem lifted (os : Os) (started : os.Started) (H : Type) (enc : TypeId × Value → H) :
    ReturnsInHanded {} Tryz.checked os 5 .any (fun w args => (Rows.scriptBackSpec.pre enc Tryz.prog Tryz.f5 [] false w args ∧ laidMetH Tryz.prog Rows.scriptBackRow.laid w) ∧ sizedMet enc Tryz.prog Tryz.f5 (OpenSpec.ofChange Rows.scriptBackSpec) false w args) (Rows.scriptBackSpec.post enc Tryz.prog Tryz.f5 false true false false) := by
  refine SF.returns_shaped_and (C := Tryz.checked) (X := fun w _ => laidMetH Tryz.prog Rows.scriptBackRow.laid w) (fun _ _ _ hh h => h.of_heap hh) own started (by kernel_rfl) Tryz.func5
    (ChangeSpec.witness_shaped (enc := enc) (C := Tryz.checked) (os := os) (X := fun w _ => laidMetH Tryz.prog Rows.scriptBackRow.laid w) false (World.laidAll Tryz.prog os Rows.scriptBackRow.laid) #[.agg #[.bool false, .bool false, .int .i64 0, .int .u64 0, .slice none 0 0]] 8 (World.laidAll_os _ _ _)
      (World.shaped_of_ZipB (by kernel_rfl) (by kernel_rfl)) (by kernel_rfl) (by kernel_rfl) (by kernel_rfl)
      (by rw [MakeChecks.laidMetH_plain _ _ _ (by kernel_rfl)]; exact laidMet_laidAll _ (by kernel_rfl) (by kernel_rfl))) ?_
  intro W base args ds gs before hval0 hW _ hsz0 hsh hL _
  have hhalf := SF.Lw_of hL hsh
  have hsz : (DataW.weightsEach Tryz.prog (Tryz.f5.params.toList ++ Rows.scriptBackSpec.plain.varTypes Tryz.prog) (ds ++ gs)).all (· ≤ reachBytes) = true := hsz0
  have hval : ∀ (j : Nat) t v, Tryz.f5.params[j]? = some t → args[j]? = some v → Value.okWide Tryz.prog W .any base t v := hval0
  have hW' := hW
  obtain ⟨p, q, hA0, hV, rfl, hfz, hnd⟩ := hW
  have hA : DataW.TrodAll enc Tryz.prog W 0 (fun _ => true) true Tryz.f5.params.toList args.toList ds p := hA0
  rw [Tryz.params5] at hA hval hsz
  obtain ⟨v0, vs0, d0, ds0, p0, q0, hargs, rfl, rfl, h0, r0⟩ := trodAll_cons hA
  obtain ⟨rfl, rfl, rfl⟩ := trodAll_nil r0
  obtain rfl : args = #[v0] := by cases args; simp_all
  obtain ⟨rfl, rfl⟩ := trodVars_none hV
  obtain ⟨cs0, rfl, hz0⟩ := okWide_struct Tryz.underlying25 (hval 0 25 v0 rfl rfl)
  have k0 := h0
  have lt0 : ∀ x ∈ p0, x.block < W.heap.size := by obtain ⟨m, hm⟩ := k0; exact DataW.trod_lt m _ _ _ hm
  obtain ⟨fu0, hf0⟩ := h0
  obtain ⟨m0, g0, cc0, bb0, A0, c0, l0, e0, hc0, hr0, hw0, hb0, he0⟩ := PAll.in_open hf0
  obtain rfl : cs0 = #[.bool m0, .bool g0, .int .i64 cc0, .int .u64 bb0, .slice A0 l0.length c0] := by simpa [Value.cells, ← Array.toList_inj] using e0
  clear hA0 hval0 hsz0
  obtain ⟨k, hk⟩ := (⟨0, trivial⟩ : ∃ k : Nat, True)
  refine (SF.back_law m0 g0 cc0 bb0 (A0, c0) l0 W ⟨hc0, hr0⟩ hw0 hb0 he0 hhalf).mono fun e W' ⟨he, bel⟩ => ?_
  subst he
  exact ⟨_, rfl, _, _, _, [], _, [], hW', trodAll_mk1 (shut_bool Tryz.underlying4 _), (trodAll_cons_mk (Below.trod laidOut (by kernel_rfl) (of_decide_eq_true (by kernel_rfl)) k0 bel lt0) trodAll_mk0), rfl, bel.frame _, fun h => by cases h⟩
theorem over : Rows.scriptBackRow.holds Tryz.pinned (OpenSpec.ofChange Rows.scriptBackSpec) :=
  OpenClaim.holds_of_wide 5 Tryz.f5 rfl rfl rfl rfl rfl rfl rfl ⟨rfl, rfl, rfl, rfl, rfl⟩ rfl rfl rfl rfl rfl (by kernel_rfl) Tryz.func5 (by kernel_rfl)
    (of_decide_eq_true (by kernel_rfl)) (by unfold Func.isWrapper; first | (rw [if_pos (by decide +kernel)]; kernel_rfl) | (rw [if_neg (by decide +kernel)]; exact ⟨rfl, rfl⟩))
    (fun os started H enc _ => lifted os started H enc)
theorem proved : Rows.ScriptBackSaid := over
theorem row_tie : Rows.scriptBackRow.laidByTextAt .later Tryz.pinned [.data, .data, .data, .data, .data, .sentinel, .sentinel, .pinned] true := scriptBack_row_tie
theorem card : Rows.ScriptBackCardSaid :=
  Claim7.holds_tied_plain_at .later [] [.data, .data, .data, .data, .data, .sentinel, .sentinel, .pinned] true (true, "e076c508fcb96590fc3f15b846c8372e96745594347af2c941e57ce05269dd9f") true
    proved (fun _ h => by cases h) (by kernel_rfl) (fun _ h => by cases h) row_tie rfl ⟨rfl, rfl⟩ (by kernel_rfl) rfl
    (fun f fn hf hfn => by
      obtain rfl : f = 5 := Option.some.inj ((show Tryz.prog.funcNamed "paternoster/paternosterlaw24.ScriptBack" = some 5 by kernel_rfl).symm.trans hf) |>.symm
      obtain rfl : fn = Tryz.f5 := (Option.some.inj (Tryz.func5.symm.trans hfn)).symm
      exact ⟨by kernel_rfl, fun j t ht => by
        rw [Tryz.params5] at ht
        have ht' : t ∈ #[25] := Array.mem_of_getElem? ht
        simp only [List.mem_toArray, List.mem_cons, List.not_mem_nil, or_false] at ht'
        rcases ht' with rfl
        · exact (show Tryz.prog.wantsStandIn 25 = false by kernel_rfl)⟩)
    (by kernel_rfl)
#print axioms card
end Go.Proofs.YtglgipggefpoiaaGreatDoor.scriptBack
namespace Go.Proofs.YtglgipggefpoiaaGreatDoor
theorem scriptBack_holds : Rows.ScriptBackCardSaid := scriptBack.card
end Go.Proofs.YtglgipggefpoiaaGreatDoor
end
