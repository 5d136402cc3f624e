/- ScriptParses: for every input the law returns true, the variables as they are laid. No condition. -/
import Derived.Test.YtglgipggefpoiaaGreatDoorCSParses10
import Derived.Test.YtglgipggefpoiaaGreatDoorCSParses14
import Derived.Test.YtglgipggefpoiaaGreatDoorCSParses8
import Derived.Test.YtglgipggefpoiaaGreatDoorCSParses6
import Derived.Test.YtglgipggefpoiaaGreatDoorCSParses7
import Derived.SizedLaws
import Derived.ChangeArms
import Derived.DataElems
import Derived.DataReads
import Derived.ProofKit
import Derived.OpenShut
import Derived.ChangeSame
import Derived.Test.YtglgipggefpoiaaGreatDoorRows
import Derived.HandedShaped
import Derived.Lib.LaidU8
import Derived.Lib.LaidTab
import Derived.Lay
import Derived.MakeChecks
import Derived.Shelf.Vars
import Derived.Test.YtglgipggefpoiaaGreatDoorTie
import Derived.Test.YtglgipggefpoiaaGreatDoorCards
import Derived.SevenTiedAt
import Derived.WalkKit
import Derived.ShutString
import Derived.ChangeOld
import Derived.Below
section
namespace Go.Proofs.YtglgipggefpoiaaGreatDoor.SF
open Go.RowKit Go.Sx Go.Proofs.YtglgipggefpoiaaGreatDoor.PAll Go.Proofs.YtglgipggefpoiaaGreatDoorW.PrintWords Go.Proofs.YtglgipggefpoiaaGreatDoorW.PrintLast Go.Proofs.YtglgipggefpoiaaGreatDoorW.PrintMore
set_option linter.unusedVariables false
set_option linter.unusedSimpArgs false
set_option maxRecDepth 100000
theorem Zl58 : (Tryz.prog.info? 58).bind (·.zero) = some (.agg #[.string ⟨#[]⟩, .bool false, .bool false]) := by kernel_rfl
theorem wrap_id {x : Int} (h : -9223372036854775808 ≤ x ∧ x ≤ 9223372036854775807) : IntKind.i64.wrap x = x := by
  simp only [IntKind.wrap, IntKind.signed, IntKind.bits]; simp; omega
def evAt (l : List S49) (i : Nat) : Option (S49 × Option (ByteArray × Bool × Bool)) := l[i]?.map fun e => (e, formAt e.f0)
theorem evAt_none {l : List S49} {i : Nat} (h : evAt l i = none) (hi : i ≤ l.length) : i = l.length := by
  unfold evAt at h
  rw [Option.map_eq_none_iff, List.getElem?_eq_none_iff] at h
  omega
theorem evAt_some {l : List S49} {i : Nat} {e : S49} {f : Option (ByteArray × Bool × Bool)} (h : evAt l i = some (e, f)) : l[i]? = some e ∧ formAt e.f0 = f := by
  unfold evAt at h
  rw [Option.map_eq_some_iff] at h
  obtain ⟨e', h1, h2⟩ := h
  cases h2
  exact ⟨h1, rfl⟩
theorem row_next {l : List S49} {i : Nat} {e : S49} {ws : List ByteArray} (hle : l[i]? = some e) (hw : evW e = ws) : (l.take (i + 1)).flatMap evW = (l.take i).flatMap evW ++ ws := by
  rw [List.take_add_one, hle, List.flatMap_append]
  simp [hw]
theorem row_len {l : List S49} {i : Nat} {e : S49} {ws : List ByteArray} (hle : l[i]? = some e) (hw : evW e = ws) : 4 + ((l.take (i + 1)).flatMap evW).length = 4 + ((l.take i).flatMap evW).length + ws.length := by
  rw [row_next hle hw, List.length_append, Nat.add_assoc]
theorem row_small {l : List S49} {i : Nat} (h : l.length ≤ 100) : ((l.take i).flatMap evW).length ≤ 300 := by
  have := evs_len (l.take i)
  rw [List.length_take] at this
  omega
theorem strs_of {w : World} {A : Option Addr} {n c : Nat} {xs : List ByteArray} (h : w.ownsRow 0 9 1 (.slice A n c) n (xs.map Value.string)) : StrsAt w A xs ∧ n ≤ c := by
  rcases h.2 with ⟨e, e0⟩ | ⟨g, cap, cur, e, hg, hh, hn, hm, hs, ht⟩
  · refine ⟨fun hne => ?_, by omega⟩
    have := h.1
    rw [e0, List.length_map] at this
    exact absurd (List.eq_nil_of_length_eq_zero (by omega)) hne
  · cases e
    refine ⟨fun hne => ⟨g, 0, rfl, fun j x hx => ?_⟩, hn⟩
    have h1 : (xs.map Value.string)[j]? = some (.string x) := by rw [List.getElem?_map, hx]; rfl
    rw [← ht, List.getElem?_take] at h1
    split at h1
    · rw [cell_of_row w g (0 + j) cur 9 (0, 0) hh, Nat.zero_add]; simpa using h1
    · cases h1
theorem row_val {p : Gh} {m g : Bool} {c : Int} {b : Nat} {l : List S49} : Value.slice p.1 (4 + ((l.take l.length).flatMap evW).length) p.2 = .slice p.1 (putW m g c b l).length p.2 := by
  rw [List.take_length, putW, List.length_append]; rfl
theorem putW_le {m g : Bool} {c : Int} {b : Nat} {l : List S49} (h : l.length ≤ 100) : (putW m g c b l).length ≤ 1000000 := by
  have := evs_len l
  rw [putW, List.length_append]
  show 4 + _ ≤ _
  omega
theorem putW_join {m g : Bool} {c : Int} {b : Nat} {l : List S49} (hc : i64r c) (hb : b < 18446744073709551616) (he : ∀ e ∈ l, i64r e.f1 ∧ i64r e.f2) (h : l.length ≤ 100) : (Lib.join ((putW m g c b l).map (·.data.toList)) (⟨#[32]⟩ : ByteArray).data.toList).length ≤ 140737488355328 := by
  have h1 := join_len_le (⟨#[32]⟩ : ByteArray).data.toList 21 (by decide) _ (putW_small m g hc hb he)
  have h2 := putW_le (m := m) (g := g) (c := c) (b := b) h
  rw [List.length_map] at h1
  omega
theorem strs_put {w : World} {p : Gh} {m g : Bool} {c : Int} {b : Nat} {l : List S49} (h : w.ownsRow 0 9 1 (.slice p.1 (4 + ((l.take l.length).flatMap evW).length) p.2) (4 + ((l.take l.length).flatMap evW).length) ((headW m g c b ++ (l.take l.length).flatMap evW).map Value.string)) : StrsAt w p.1 (putW m g c b l) ∧ (putW m g c b l).length ≤ p.2 := by
  rw [List.take_length] at h
  have h1 := strs_of h
  refine ⟨h1.1, ?_⟩
  rw [putW, List.length_append]
  exact h1.2
theorem put_calls (m g : Bool) (c : Int) (b : Nat) (q : Gh) (l : List S49) (w : World) (hL : Lw w) (hE : RowE w q l) (hc : i64r c) (hb : b < 18446744073709551616) (hl : l.length ≤ 100) (hev0 : ∀ e ∈ l, i64r e.f1 ∧ i64r e.f2) :
    Calls Tryz.prog 8 #[.agg #[.bool m, .bool g, .int .i64 c, .int .u64 b, .slice q.1 l.length q.2]] w fun e w' => e = .returned (.string (putS m g c b l)) ∧ Below w.heap.size w w' := by
  refine enter (w0 := w) (hp := [old w]) (env := [(0, .agg #[.bool m, .bool g, .int .i64 c, .int .u64 b, .slice q.1 l.length q.2])]) Tryz.func8 rfl 63 rfl (by simp) rfl (HeapOK.start _) ?_
  refine wc_seq ?_
  refine wc_region ?_
  refine wl_box rfl rfl rfl (by decide) rfl rfl (fun b1 => ?_)
  refine wl_q (q_assign rfl rfl) rfl rfl (by decide) ?_
  refine wl_nil ?_
  refine fq_then ?_
  refine wc_seq ?_
  refine wc_any Fol (any_draw1 (ι := Nat) 13 12 21 _ _ (by kernel_rfl) (ChainM.yield (q_fa (o1 := 0) rfl rfl Fo25_0 rfl) rfl rfl rfl (ChainM.yield (q_load rfl rfl Mn4 (reads1 (i := 0) rfl rfl)) rfl rfl rfl (ChainM.yield (q_call rfl En16 rfl (fun w1 hw1 => word_of _ _ w1)) rfl rfl rfl (ChainM.yield (q_fa (o1 := 1) rfl rfl Fo25_1 rfl) rfl rfl rfl (ChainM.yield (q_load rfl rfl Mn4 (reads1 (i := 0) rfl rfl)) rfl rfl rfl (ChainM.yield (q_call rfl En16 rfl (fun w1 hw1 => word_of _ _ w1)) rfl rfl rfl (ChainM.yield (q_fa (o1 := 2) rfl rfl Fo25_2 rfl) rfl rfl rfl (ChainM.yield (q_load rfl rfl Mn3 (reads1 (i := 0) rfl rfl)) rfl rfl rfl (ChainM.yield (q_call rfl En17 rfl (fun w1 hw1 => itoa_calls _ hc w1 (hL.below (hw1.toBelow (by simp))))) rfl rfl rfl (ChainM.yield (q_fa (o1 := 3) rfl rfl Fo25_3 rfl) rfl rfl rfl (ChainM.yield (q_load rfl rfl Mn22 (reads1 (i := 0) rfl rfl)) rfl rfl rfl (ChainM.yield (q_call rfl En18 rfl (fun w1 hw1 => fu_calls b hb w1 (hL.below (hw1.toBelow (by simp))))) rfl rfl rfl (ChainM.gap rfl (ChainM.nil _ _)))))))))))))) rfl rfl (om_buildSlice rfl rfl Tryz.underlying54 (built_parts Sz9 (by decide) Zs9 (by simp [Value.cells]) rfl (by decide) (by decide) rfl)) (fun b2 => ?_))
  refine wl_q (q_assign rfl rfl) rfl rfl (by decide) ?_
  refine wl_nil ?_
  refine fq_then ?_
  refine wc_seq ?_
  refine wc_region ?_
  refine wl_call (ι := Nat) (fun i => .map (some i)) (fun i => .obj i (mobj .i64 formsL) :: _) (fun _ => True) rfl rfl rfl (by decide) En19 rfl (fun w1 hw1 => (forms_calls w1).mono (fun e w' ⟨i, h1, h2⟩ => ⟨i, trivial, h1, hw1.lift1 h2⟩)) (fun bm _ => ?_)
  skip
  refine wl_q (q_assign rfl rfl) rfl rfl (by decide) ?_
  refine wl_nil ?_
  refine fq_then ?_
  refine wc_seq ?_
  refine wc_seq ?_
  refine wc_region ?_
  refine wl_q (q_fa (o1 := 4) rfl rfl Fo25_4 rfl) rfl rfl (by decide) ?_
  refine wl_q (q_load rfl rfl Mn23 (reads1 (i := 2) rfl rfl)) rfl rfl (by decide) ?_
  refine wl_q (q_len rfl rfl Tryz.underlying23) rfl rfl (by decide) ?_
  refine wl_q (q_move rfl rfl) rfl rfl (by decide) ?_
  refine wl_nil ?_
  refine fq_then ?_
  refine wc_block ?_
  refine wc_blkOwn 1 4 1 rfl rfl (by decide) ?_
  refine wc_loop (ι := (Nat × Gh)) (fun ⟨i, p⟩ => [(3, .slice p.1 (4 + ((l.take i).flatMap evW).length) p.2), (4, .map (some bm)), (24, .slice q.1 l.length q.2), (25, .int .i64 l.length), (26, .int .i64 (i : Nat))]) (fun ⟨i, p⟩ => [.obj bm (mobj .i64 formsL), .own 0 9 1 (.slice p.1 (4 + ((l.take i).flatMap evW).length) p.2) (4 + ((l.take i).flatMap evW).length) ((headW m g c b ++ (l.take i).flatMap evW).map Value.string), old w]) (fun ⟨i, p⟩ => i ≤ l.length) (fun ⟨i, p⟩ => l.length - i) (0, (some ⟨b2, 0, none⟩, 4)) (Nat.zero_le _) ⟨List.forall_mem_cons.2 ⟨rfl, List.forall_mem_cons.2 ⟨rfl, List.forall_mem_cons.2 ⟨rfl, List.forall_mem_cons.2 ⟨rfl, List.forall_mem_cons.2 ⟨rfl, fun _ h => (by cases h)⟩⟩⟩⟩⟩, List.Sublist.cons_cons _ (List.Sublist.cons_cons _ (List.Sublist.cons _ (List.Sublist.cons_cons _ (List.Sublist.refl []))))⟩ ?_
  rintro ⟨i, p⟩ hi
  dsimp only at hi ⊢
  rcases hev : evAt l i with _ | ⟨e, _ | ⟨wd, c1, n1⟩⟩
  · skip
    have hil := evAt_none hev hi
    subst hil
    refine wc_seq ?_
    refine wc_region ?_
    refine wl_q (OpQ.to (q_bin rfl rfl rfl rfl) (congrArg Value.bool (show decide _ = false by rw [decide_eq_false_iff_not]; omega))) rfl rfl (by decide) ?_
    refine wl_nil ?_
    refine fq_then ?_
    refine wc_seq ?_
    refine wc_false rfl ?_
    refine wc_exit ?_
    refine fq_then_exit ?_
    refine fq_then_exit ?_
    refine fq_block_hit ?_
    refine fq_then ?_
    refine wc_seq ?_
    refine wc_region ?_
    refine wl_q (OpQ.to (q_move rfl rfl) (row_val (m := m) (g := g) (c := c) (b := b))) rfl rfl (by decide) ?_
    refine wl_q (q_call rfl En20 rfl (fun w1 hw1 => join_calls p.1 p.2 (putW m g c b l) ⟨#[32]⟩ w1 (strs_put (hw1.get (i := 1) rfl)).1 (putW_le hl) (strs_put (hw1.get (i := 1) rfl)).2 (by simp [putW, headW]) (putW_join hc hb hev0 hl))) rfl rfl (by decide) ?_
    refine wl_q (q_assign rfl rfl) rfl rfl (by decide) ?_
    refine wl_nil ?_
    refine fq_then ?_
    refine wc_ret ?_
    refine fq_ret1 rfl rfl (fun w1 H => ?_)
    exact ⟨rfl, H.toBelow (by simp)⟩
  · skip
    obtain ⟨hle, hf⟩ := evAt_some hev
    have hil := (List.getElem?_eq_some_iff.1 hle).1
    obtain ⟨ad, hA, hcev⟩ := hE.at hle
    have hsm := row_small (i := i) hl
    refine wc_seq ?_
    refine wc_region ?_
    refine wl_q (OpQ.to (q_bin rfl rfl rfl rfl) (congrArg Value.bool (show decide _ = true by rw [decide_eq_true_eq]; omega))) rfl rfl (by decide) ?_
    refine wl_nil ?_
    refine fq_then ?_
    refine wc_seq ?_
    refine wc_true rfl ?_
    refine wc_skip ?_
    refine fq_then ?_
    refine wc_seq ?_
    refine wc_block ?_
    refine wc_seq ?_
    refine wc_region ?_
    refine wl_q (q_indexO rfl rfl hA rfl Tryz.underlying23 Sz49 (by omega) (by omega)) rfl rfl (by decide) ?_
    refine wl_q (q_loadA rfl rfl Mn49 Sz49 rfl (reads_old (by simp) hcev)) rfl rfl (by decide) ?_
    refine wl_alloc rfl rfl rfl (by decide) Zr49 (fun b3 => ?_)
    refine wl_store (i := 0) rfl rfl rfl rfl rfl rfl Sz49 rfl rfl (by simp) (by simp [Value.oneCell']) (by first | (simp only [List.take_succ_cons, List.take_zero, List.take_nil, List.drop_succ_cons, List.drop_zero, List.drop_nil, List.nil_append, List.cons_append, List.append_nil, List.length_cons, List.length_nil, Nat.reduceAdd, Nat.zero_add]; rfl) | rfl) (by first | (simp only [List.set_cons_zero, List.set_cons_succ]; rfl) | rfl) ?_
    refine wl_nil ?_
    refine fq_then ?_
    refine wc_seq ?_
    refine wc_region ?_
    refine wl_q (q_move rfl rfl) rfl rfl (by decide) ?_
    refine wl_q (q_fa (o1 := 0) rfl rfl Fo49_0 rfl) rfl rfl (by decide) ?_
    refine wl_q (q_load rfl rfl Mn3 (reads1 (i := 0) rfl rfl)) rfl rfl (by decide) ?_
    refine wl_q (q_lookupOk (i := 1) (v := .agg #[.string ⟨#[]⟩, .bool false, .bool false]) (c := false) rfl rfl rfl Tryz.underlying55 Tryz.underlying3 Zl58 rfl (by rw [find_form, hf]; rfl) (by rw [find_form, hf]; rfl)) rfl rfl (by decide) ?_
    refine wl_q (q_move rfl rfl) rfl rfl (by decide) ?_
    refine wl_q (q_extract rfl rfl rfl) rfl rfl (by decide) ?_
    refine wl_q (q_extract rfl rfl rfl) rfl rfl (by decide) ?_
    refine wl_alloc rfl rfl rfl (by decide) Zr58 (fun b4 => ?_)
    refine wl_store (i := 0) rfl rfl rfl rfl rfl rfl Sz58 rfl rfl (by simp) (by simp [Value.oneCell']) (by first | (simp only [List.take_succ_cons, List.take_zero, List.take_nil, List.drop_succ_cons, List.drop_zero, List.drop_nil, List.nil_append, List.cons_append, List.append_nil, List.length_cons, List.length_nil, Nat.reduceAdd, Nat.zero_add]; rfl) | rfl) (by first | (simp only [List.set_cons_zero, List.set_cons_succ]; rfl) | rfl) ?_
    refine wl_q (q_assign rfl rfl) rfl rfl (by decide) ?_
    refine wl_nil ?_
    refine fq_then ?_
    refine wc_seq ?_
    refine wc_seq ?_
    refine wc_region ?_
    refine wl_q (q_move rfl rfl) rfl rfl (by decide) ?_
    refine wl_q (q_not rfl rfl) rfl rfl (by decide) ?_
    refine wl_nil ?_
    refine fq_then ?_
    refine wc_true rfl ?_
    refine wc_exit ?_
    refine fq_then_exit ?_
    refine fq_block_hit ?_
    refine fq_then ?_
    refine wc_region ?_
    refine wl_q (q_bin rfl rfl rfl rfl) rfl rfl (by decide) ?_
    refine wl_q (q_move rfl rfl) rfl rfl (by decide) ?_
    refine wl_nil ?_
    have hw : evW e = [] := by simp [evW, hf, ibs]
    refine fq_ownEq 3 (v' := .slice p.1 (4 + ((l.take (i + 1)).flatMap evW).length) p.2) (n' := 4 + ((l.take (i + 1)).flatMap evW).length) (xs' := (headW m g c b ++ (l.take (i + 1)).flatMap evW).map Value.string) rfl (by rw [row_len hle hw]; rfl) (by rw [row_len hle hw]; rfl) (by rw [row_next hle hw]; simp) ?_
    refine fq_next (i + 1, (p)) (by omega) (show l.length - (i + 1) < l.length - i by omega) ⟨List.forall_mem_cons.2 ⟨(show some (Value.slice _ _ _) = some (Value.slice _ _ _) from by rw [row_len hle hw]; rfl), List.forall_mem_cons.2 ⟨rfl, List.forall_mem_cons.2 ⟨rfl, List.forall_mem_cons.2 ⟨rfl, List.forall_mem_cons.2 ⟨(show some (Value.int .i64 (IntKind.i64.wrap ((i : Int) + 1))) = some (Value.int .i64 ((i + 1 : Nat) : Int)) from by rw [wrap_id (by omega)]; rfl), fun _ h => (by cases h)⟩⟩⟩⟩⟩, List.Sublist.cons _ (List.Sublist.cons _ (List.Sublist.cons_cons _ (List.Sublist.cons_cons _ (List.Sublist.cons_cons _ (List.Sublist.refl [])))))⟩
  · skip
    obtain ⟨hle, hf⟩ := evAt_some hev
    have hil := (List.getElem?_eq_some_iff.1 hle).1
    obtain ⟨ad, hA, hcev⟩ := hE.at hle
    have hsm := row_small (i := i) hl
    obtain ⟨hr1, hr2⟩ := hev0 e (List.mem_of_getElem? hle)
    refine wc_seq ?_
    refine wc_region ?_
    refine wl_q (OpQ.to (q_bin rfl rfl rfl rfl) (congrArg Value.bool (show decide _ = true by rw [decide_eq_true_eq]; omega))) rfl rfl (by decide) ?_
    refine wl_nil ?_
    refine fq_then ?_
    refine wc_seq ?_
    refine wc_true rfl ?_
    refine wc_skip ?_
    refine fq_then ?_
    refine wc_seq ?_
    refine wc_block ?_
    refine wc_seq ?_
    refine wc_region ?_
    refine wl_q (q_indexO rfl rfl hA rfl Tryz.underlying23 Sz49 (by omega) (by omega)) rfl rfl (by decide) ?_
    refine wl_q (q_loadA rfl rfl Mn49 Sz49 rfl (reads_old (by simp) hcev)) rfl rfl (by decide) ?_
    refine wl_alloc rfl rfl rfl (by decide) Zr49 (fun b5 => ?_)
    refine wl_store (i := 0) rfl rfl rfl rfl rfl rfl Sz49 rfl rfl (by simp) (by simp [Value.oneCell']) (by first | (simp only [List.take_succ_cons, List.take_zero, List.take_nil, List.drop_succ_cons, List.drop_zero, List.drop_nil, List.nil_append, List.cons_append, List.append_nil, List.length_cons, List.length_nil, Nat.reduceAdd, Nat.zero_add]; rfl) | rfl) (by first | (simp only [List.set_cons_zero, List.set_cons_succ]; rfl) | rfl) ?_
    refine wl_nil ?_
    refine fq_then ?_
    refine wc_seq ?_
    refine wc_region ?_
    refine wl_q (q_move rfl rfl) rfl rfl (by decide) ?_
    refine wl_q (q_fa (o1 := 0) rfl rfl Fo49_0 rfl) rfl rfl (by decide) ?_
    refine wl_q (q_load rfl rfl Mn3 (reads1 (i := 0) rfl rfl)) rfl rfl (by decide) ?_
    refine wl_q (q_lookupOk (i := 1) (v := .agg #[.string wd, .bool c1, .bool n1]) (c := true) rfl rfl rfl Tryz.underlying55 Tryz.underlying3 Zl58 rfl (by rw [find_form, hf]; rfl) (by rw [find_form, hf]; rfl)) rfl rfl (by decide) ?_
    refine wl_q (q_move rfl rfl) rfl rfl (by decide) ?_
    refine wl_q (q_extract rfl rfl rfl) rfl rfl (by decide) ?_
    refine wl_q (q_extract rfl rfl rfl) rfl rfl (by decide) ?_
    refine wl_alloc rfl rfl rfl (by decide) Zr58 (fun b6 => ?_)
    refine wl_store (i := 0) rfl rfl rfl rfl rfl rfl Sz58 rfl rfl (by simp) (by simp [Value.oneCell']) (by first | (simp only [List.take_succ_cons, List.take_zero, List.take_nil, List.drop_succ_cons, List.drop_zero, List.drop_nil, List.nil_append, List.cons_append, List.append_nil, List.length_cons, List.length_nil, Nat.reduceAdd, Nat.zero_add]; rfl) | rfl) (by first | (simp only [List.set_cons_zero, List.set_cons_succ]; rfl) | rfl) ?_
    refine wl_q (q_assign rfl rfl) rfl rfl (by decide) ?_
    refine wl_nil ?_
    refine fq_then ?_
    refine wc_seq ?_
    refine wc_seq ?_
    refine wc_region ?_
    refine wl_q (q_move rfl rfl) rfl rfl (by decide) ?_
    refine wl_q (q_not rfl rfl) rfl rfl (by decide) ?_
    refine wl_nil ?_
    refine fq_then ?_
    refine wc_false rfl ?_
    refine wc_skip ?_
    refine fq_then ?_
    refine wc_seq ?_
    refine wc_region ?_
    refine wl_q (q_move rfl rfl) rfl rfl (by decide) ?_
    refine wl_q (q_fa (o1 := 0) rfl rfl Fo58_0 rfl) rfl rfl (by decide) ?_
    refine wl_q (q_load rfl rfl Mn9 (reads1 (i := 0) rfl rfl)) rfl rfl (by decide) ?_
    refine wl_buildSlice rfl rfl rfl (by decide) rfl Tryz.underlying54 (built_one Sz9 (by decide) Zs9 (by decide) rfl rfl) (fun b7 => ?_)
    refine wl_append (i := 4) (m := 1) (news := [.string wd]) rfl rfl rfl (by decide) Tryz.underlying54 Ap9 (by decide) rfl rfl rfl (readsAll (i := 0) rfl) rfl (by simp [Value.oneCell']) (by unfold maxLen; omega) (by omega) (fun v43 _ => ?_)
    refine wl_ownForm (i := 4) rfl (fun A43 c43 e43 f43 => ?_)
    subst e43
    skip
    refine wl_q (q_assign rfl rfl) rfl rfl (by decide) ?_
    refine wl_nil ?_
    refine fq_then ?_
    refine wc_seq ?_
    refine wc_seq ?_
    refine wc_region ?_
    refine wl_q (q_fa (o1 := 1) rfl rfl Fo58_1 rfl) rfl rfl (by decide) ?_
    refine wl_q (q_load rfl rfl Mn4 (reads1 (i := 1) rfl rfl)) rfl rfl (by decide) ?_
    refine wl_nil ?_
    refine fq_then ?_
    refine wc_cond rfl (fun h45 => ?_) (fun h45 => ?_)
    · skip
      subst h45
      refine wc_region ?_
      refine wl_q (q_move rfl rfl) rfl rfl (by decide) ?_
      refine wl_q (q_fa (o1 := 1) rfl rfl Fo49_1 rfl) rfl rfl (by decide) ?_
      refine wl_q (q_load rfl rfl Mn3 (reads1 (i := 2) rfl rfl)) rfl rfl (by decide) ?_
      refine wl_q (q_call rfl En17 rfl (fun w1 hw1 => itoa_calls _ hr1 w1 (hL.below (hw1.toBelow (by simp))))) rfl rfl (by decide) ?_
      refine wl_buildSlice rfl rfl rfl (by decide) rfl Tryz.underlying54 (built_one Sz9 (by decide) Zs9 (by decide) rfl rfl) (fun b8 => ?_)
      refine wl_append (i := 5) (m := 1) (news := [.string (ibs e.f1)]) rfl rfl rfl (by decide) Tryz.underlying54 Ap9 (by decide) rfl rfl rfl (readsAll (i := 0) rfl) rfl (by simp [Value.oneCell']) (by unfold maxLen; omega) (by omega) (fun v51 _ => ?_)
      refine wl_ownForm (i := 5) rfl (fun A51 c51 e51 f51 => ?_)
      subst e51
      skip
      refine wl_q (q_assign rfl rfl) rfl rfl (by decide) ?_
      refine wl_nil ?_
      refine fq_then ?_
      refine wc_seq ?_
      refine wc_region ?_
      refine wl_q (q_fa (o1 := 2) rfl rfl Fo58_2 rfl) rfl rfl (by decide) ?_
      refine wl_q (q_load rfl rfl Mn4 (reads1 (i := 2) rfl rfl)) rfl rfl (by decide) ?_
      refine wl_nil ?_
      refine fq_then ?_
      refine wc_cond rfl (fun h53 => ?_) (fun h53 => ?_)
      · skip
        subst h53
        refine wc_region ?_
        refine wl_q (q_move rfl rfl) rfl rfl (by decide) ?_
        refine wl_q (q_fa (o1 := 2) rfl rfl Fo49_2 rfl) rfl rfl (by decide) ?_
        refine wl_q (q_load rfl rfl Mn3 (reads1 (i := 3) rfl rfl)) rfl rfl (by decide) ?_
        refine wl_q (q_call rfl En17 rfl (fun w1 hw1 => itoa_calls _ hr2 w1 (hL.below (hw1.toBelow (by simp))))) rfl rfl (by decide) ?_
        refine wl_buildSlice rfl rfl rfl (by decide) rfl Tryz.underlying54 (built_one Sz9 (by decide) Zs9 (by decide) rfl rfl) (fun b9 => ?_)
        refine wl_append (i := 6) (m := 1) (news := [.string (ibs e.f2)]) rfl rfl rfl (by decide) Tryz.underlying54 Ap9 (by decide) rfl rfl rfl (readsAll (i := 0) rfl) rfl (by simp [Value.oneCell']) (by unfold maxLen; omega) (by omega) (fun v59 _ => ?_)
        refine wl_ownForm (i := 6) rfl (fun A59 c59 e59 f59 => ?_)
        subst e59
        skip
        refine wl_q (q_assign rfl rfl) rfl rfl (by decide) ?_
        refine wl_nil ?_
        refine fq_block ?_
        refine fq_then ?_
        refine wc_region ?_
        refine wl_q (q_bin rfl rfl rfl rfl) rfl rfl (by decide) ?_
        refine wl_q (q_move rfl rfl) rfl rfl (by decide) ?_
        refine wl_nil ?_
        have hw : evW e = [wd, ibs e.f1, ibs e.f2] := by simp [evW, hf, ibs]
        refine fq_ownEq 6 (v' := .slice ((A59, c59) : Gh).1 (4 + ((l.take (i + 1)).flatMap evW).length) ((A59, c59) : Gh).2) (n' := 4 + ((l.take (i + 1)).flatMap evW).length) (xs' := (headW m g c b ++ (l.take (i + 1)).flatMap evW).map Value.string) rfl (by rw [row_len hle hw]; rfl) (by rw [row_len hle hw]; rfl) (by rw [row_next hle hw]; simp) ?_
        refine fq_next (i + 1, (((A59, c59) : Gh))) (by omega) (show l.length - (i + 1) < l.length - i by omega) ⟨List.forall_mem_cons.2 ⟨(show some (Value.slice _ _ _) = some (Value.slice _ _ _) from by rw [row_len hle hw]; rfl), List.forall_mem_cons.2 ⟨rfl, List.forall_mem_cons.2 ⟨rfl, List.forall_mem_cons.2 ⟨rfl, List.forall_mem_cons.2 ⟨(show some (Value.int .i64 (IntKind.i64.wrap ((i : Int) + 1))) = some (Value.int .i64 ((i + 1 : Nat) : Int)) from by rw [wrap_id (by omega)]; rfl), fun _ h => (by cases h)⟩⟩⟩⟩⟩, List.Sublist.cons _ (List.Sublist.cons _ (List.Sublist.cons _ (List.Sublist.cons _ (List.Sublist.cons _ (List.Sublist.cons_cons _ (List.Sublist.cons_cons _ (List.Sublist.cons_cons _ (List.Sublist.refl []))))))))⟩
      · skip
        subst h53
        refine wc_skip ?_
        refine fq_block ?_
        refine fq_then ?_
        refine wc_region ?_
        refine wl_q (q_bin rfl rfl rfl rfl) rfl rfl (by decide) ?_
        refine wl_q (q_move rfl rfl) rfl rfl (by decide) ?_
        refine wl_nil ?_
        have hw : evW e = [wd, ibs e.f1] := by simp [evW, hf, ibs]
        refine fq_ownEq 5 (v' := .slice ((A51, c51) : Gh).1 (4 + ((l.take (i + 1)).flatMap evW).length) ((A51, c51) : Gh).2) (n' := 4 + ((l.take (i + 1)).flatMap evW).length) (xs' := (headW m g c b ++ (l.take (i + 1)).flatMap evW).map Value.string) rfl (by rw [row_len hle hw]; rfl) (by rw [row_len hle hw]; rfl) (by rw [row_next hle hw]; simp) ?_
        refine fq_next (i + 1, (((A51, c51) : Gh))) (by omega) (show l.length - (i + 1) < l.length - i by omega) ⟨List.forall_mem_cons.2 ⟨(show some (Value.slice _ _ _) = some (Value.slice _ _ _) from by rw [row_len hle hw]; rfl), List.forall_mem_cons.2 ⟨rfl, List.forall_mem_cons.2 ⟨rfl, List.forall_mem_cons.2 ⟨rfl, List.forall_mem_cons.2 ⟨(show some (Value.int .i64 (IntKind.i64.wrap ((i : Int) + 1))) = some (Value.int .i64 ((i + 1 : Nat) : Int)) from by rw [wrap_id (by omega)]; rfl), fun _ h => (by cases h)⟩⟩⟩⟩⟩, List.Sublist.cons _ (List.Sublist.cons _ (List.Sublist.cons _ (List.Sublist.cons _ (List.Sublist.cons_cons _ (List.Sublist.cons_cons _ (List.Sublist.cons_cons _ (List.Sublist.refl [])))))))⟩
    · skip
      subst h45
      refine wc_skip ?_
      refine fq_then ?_
      refine wc_seq ?_
      refine wc_region ?_
      refine wl_q (q_fa (o1 := 2) rfl rfl Fo58_2 rfl) rfl rfl (by decide) ?_
      refine wl_q (q_load rfl rfl Mn4 (reads1 (i := 1) rfl rfl)) rfl rfl (by decide) ?_
      refine wl_nil ?_
      refine fq_then ?_
      refine wc_cond rfl (fun h53 => ?_) (fun h53 => ?_)
      · skip
        subst h53
        refine wc_region ?_
        refine wl_q (q_move rfl rfl) rfl rfl (by decide) ?_
        refine wl_q (q_fa (o1 := 2) rfl rfl Fo49_2 rfl) rfl rfl (by decide) ?_
        refine wl_q (q_load rfl rfl Mn3 (reads1 (i := 2) rfl rfl)) rfl rfl (by decide) ?_
        refine wl_q (q_call rfl En17 rfl (fun w1 hw1 => itoa_calls _ hr2 w1 (hL.below (hw1.toBelow (by simp))))) rfl rfl (by decide) ?_
        refine wl_buildSlice rfl rfl rfl (by decide) rfl Tryz.underlying54 (built_one Sz9 (by decide) Zs9 (by decide) rfl rfl) (fun b10 => ?_)
        refine wl_append (i := 5) (m := 1) (news := [.string (ibs e.f2)]) rfl rfl rfl (by decide) Tryz.underlying54 Ap9 (by decide) rfl rfl rfl (readsAll (i := 0) rfl) rfl (by simp [Value.oneCell']) (by unfold maxLen; omega) (by omega) (fun v59 _ => ?_)
        refine wl_ownForm (i := 5) rfl (fun A59 c59 e59 f59 => ?_)
        subst e59
        skip
        refine wl_q (q_assign rfl rfl) rfl rfl (by decide) ?_
        refine wl_nil ?_
        refine fq_block ?_
        refine fq_then ?_
        refine wc_region ?_
        refine wl_q (q_bin rfl rfl rfl rfl) rfl rfl (by decide) ?_
        refine wl_q (q_move rfl rfl) rfl rfl (by decide) ?_
        refine wl_nil ?_
        have hw : evW e = [wd, ibs e.f2] := by simp [evW, hf, ibs]
        refine fq_ownEq 5 (v' := .slice ((A59, c59) : Gh).1 (4 + ((l.take (i + 1)).flatMap evW).length) ((A59, c59) : Gh).2) (n' := 4 + ((l.take (i + 1)).flatMap evW).length) (xs' := (headW m g c b ++ (l.take (i + 1)).flatMap evW).map Value.string) rfl (by rw [row_len hle hw]; rfl) (by rw [row_len hle hw]; rfl) (by rw [row_next hle hw]; simp) ?_
        refine fq_next (i + 1, (((A59, c59) : Gh))) (by omega) (show l.length - (i + 1) < l.length - i by omega) ⟨List.forall_mem_cons.2 ⟨(show some (Value.slice _ _ _) = some (Value.slice _ _ _) from by rw [row_len hle hw]; rfl), List.forall_mem_cons.2 ⟨rfl, List.forall_mem_cons.2 ⟨rfl, List.forall_mem_cons.2 ⟨rfl, List.forall_mem_cons.2 ⟨(show some (Value.int .i64 (IntKind.i64.wrap ((i : Int) + 1))) = some (Value.int .i64 ((i + 1 : Nat) : Int)) from by rw [wrap_id (by omega)]; rfl), fun _ h => (by cases h)⟩⟩⟩⟩⟩, List.Sublist.cons _ (List.Sublist.cons _ (List.Sublist.cons _ (List.Sublist.cons _ (List.Sublist.cons_cons _ (List.Sublist.cons_cons _ (List.Sublist.cons_cons _ (List.Sublist.refl [])))))))⟩
      · skip
        subst h53
        refine wc_skip ?_
        refine fq_block ?_
        refine fq_then ?_
        refine wc_region ?_
        refine wl_q (q_bin rfl rfl rfl rfl) rfl rfl (by decide) ?_
        refine wl_q (q_move rfl rfl) rfl rfl (by decide) ?_
        refine wl_nil ?_
        have hw : evW e = [wd] := by simp [evW, hf, ibs]
        refine fq_ownEq 4 (v' := .slice ((A43, c43) : Gh).1 (4 + ((l.take (i + 1)).flatMap evW).length) ((A43, c43) : Gh).2) (n' := 4 + ((l.take (i + 1)).flatMap evW).length) (xs' := (headW m g c b ++ (l.take (i + 1)).flatMap evW).map Value.string) rfl (by rw [row_len hle hw]; rfl) (by rw [row_len hle hw]; rfl) (by rw [row_next hle hw]; simp) ?_
        refine fq_next (i + 1, (((A43, c43) : Gh))) (by omega) (show l.length - (i + 1) < l.length - i by omega) ⟨List.forall_mem_cons.2 ⟨(show some (Value.slice _ _ _) = some (Value.slice _ _ _) from by rw [row_len hle hw]; rfl), List.forall_mem_cons.2 ⟨rfl, List.forall_mem_cons.2 ⟨rfl, List.forall_mem_cons.2 ⟨rfl, List.forall_mem_cons.2 ⟨(show some (Value.int .i64 (IntKind.i64.wrap ((i : Int) + 1))) = some (Value.int .i64 ((i + 1 : Nat) : Int)) from by rw [wrap_id (by omega)]; rfl), fun _ h => (by cases h)⟩⟩⟩⟩⟩, List.Sublist.cons _ (List.Sublist.cons _ (List.Sublist.cons _ (List.Sublist.cons_cons _ (List.Sublist.cons_cons _ (List.Sublist.cons_cons _ (List.Sublist.refl []))))))⟩
end Go.Proofs.YtglgipggefpoiaaGreatDoor.SF
end
section
namespace Go.Proofs.YtglgipggefpoiaaGreatDoor.SF
open Go.RowKit Go.Sx Go.Proofs.YtglgipggefpoiaaGreatDoor.PAll Go.Proofs.YtglgipggefpoiaaGreatDoorW.PrintWords Go.Proofs.YtglgipggefpoiaaGreatDoorW.PrintLast Go.Proofs.YtglgipggefpoiaaGreatDoorW.PrintMore
set_option linter.unusedVariables false
set_option linter.unusedSimpArgs false
set_option maxRecDepth 100000
def ex1 : ByteArray := ⟨#[109, 97, 105, 110, 115, 32, 110, 111, 110, 101, 32, 48, 32, 48, 32, 99, 97, 108, 108, 32, 48, 32, 51]⟩
def ex2 : ByteArray := ⟨#[109, 97, 105, 110, 115, 32, 110, 111, 110, 101, 32, 48, 32, 48, 48]⟩
theorem ex1_tick : tickP ex1 = ((true, false, 0, 0, [⟨1, 0, 3⟩]), 0) := by kernel_rfl
theorem ex2_tick : tickP ex2 = ((false, false, 0, 0, []), 11) := by kernel_rfl
theorem ex1_put : putS true false 0 0 [⟨1, 0, 3⟩] = ex1 := by kernel_rfl
theorem parseE {s : ByteArray} {m g : Bool} {c : Int} {b : Nat} {L : List S49} {err : Int} (h : tickP s = ((m, g, c, b, L), err)) (w : World) (hL : Lw w) : Calls Tryz.prog 11 #[.string s] w fun e w' => ∃ q : Gh, RowE w' q L ∧ e = .returned (.tuple #[.agg #[.bool m, .bool g, .int .i64 c, .int .u64 b, .slice q.1 L.length q.2], .int .i64 err]) ∧ Below w.heap.size w w' := by
  have := parse_calls s w hL
  rw [h] at this
  exact this.mono (fun e w' ⟨q, h1, h2, h3⟩ => ⟨q, h2, h1, h3⟩)
theorem eqA49 (d : Nat) (w : World) (x0 y0 x1 y1 x2 y2 : Int) : (Op.equalIn (d + 2) 49 (.agg #[.int .i64 x0, .int .i64 x1, .int .i64 x2]) (.agg #[.int .i64 y0, .int .i64 y1, .int .i64 y2])).run Tryz.prog w = .ok (x0 == y0 && (x1 == y1 && (x2 == y2))) w := by
  refine eqA_of Tryz.underlying49 (by kernel_rfl) ?_
  refine eqf_cons (by rfl) (by go_simp; rfl) (by go_simp; rfl) (by go_simp) ?_
  refine eqf_cons (by rfl) (by go_simp; rfl) (by go_simp; rfl) (by go_simp) ?_
  exact eqf_last (by rfl) (by go_simp; rfl) (by go_simp; rfl) (by go_simp)
theorem eq49 (w : World) (x0 y0 x1 y1 x2 y2 : Int) : (Op.equal 49 (.agg #[.int .i64 x0, .int .i64 x1, .int .i64 x2]) (.agg #[.int .i64 y0, .int .i64 y1, .int .i64 y2])).run Tryz.prog w = .ok (x0 == y0 && (x1 == y1 && (x2 == y2))) w := by
  have h := eqA49 (Op.maxDepth - 2) w x0 y0 x1 y1 x2 y2
  rw [show Op.maxDepth - 2 + 2 = Op.maxDepth from rfl] at h
  simpa [Op.equal] using h
set_option maxHeartbeats 1000000 in
theorem awake_calls (w : World) (hL : Lw w) : Calls Tryz.prog 7 #[] w fun e w' => e = .returned (.bool true) ∧ Below w.heap.size w w' := by
  refine enter (w0 := w) (hp := [old w]) (env := []) Tryz.func7 rfl 51 rfl (by simp) rfl (HeapOK.start _) ?_
  refine wc_seq ?_
  refine wc_region ?_
  refine wl_q (q_assign rfl rfl) rfl rfl (by decide) ?_
  refine wl_nil ?_
  refine fq_then ?_
  refine wc_seq ?_
  refine wc_region ?_
  refine wl_callK (ι := Gh) (fun i => .tuple #[.agg #[.bool true, .bool false, .int .i64 0, .int .u64 0, .slice i.1 [⟨1, 0, 3⟩].length i.2], .int .i64 0]) (fun i w w' => RowE w' i [⟨1, 0, 3⟩]) rfl rfl rfl (by decide) En11 rfl (fun w1 hw1 => parseE (m := true) (g := false) (c := 0) (b := 0) (L := [⟨1, 0, 3⟩]) (err := 0) ex1_tick w1 (hL.below (hw1.toBelow (by simp)))) (fun p1 wa_ w_1 _ Hn_ _ hC_ => ?_)
  have hx_ := Hn_.toBelow (by simp)
  have hL := hL.below hx_
  have hB := hx_
  have hE_p1 := hC_
  refine wl_q (q_move rfl rfl) rfl rfl (by decide) ?_
  refine wl_q (q_extract rfl rfl rfl) rfl rfl (by decide) ?_
  refine wl_q (q_extract rfl rfl rfl) rfl rfl (by decide) ?_
  refine wl_alloc rfl rfl rfl (by decide) Zr25 (fun b2 => ?_)
  refine wl_store (i := 0) rfl rfl rfl rfl rfl rfl Sz25 rfl rfl (by simp) (by simp [Value.oneCell']) (by first | (simp only [List.take_succ_cons, List.take_zero, List.take_nil, List.drop_succ_cons, List.drop_zero, List.drop_nil, List.nil_append, List.cons_append, List.append_nil, List.length_cons, List.length_nil, Nat.reduceAdd, Nat.zero_add]; rfl) | rfl) (by first | (simp only [List.set_cons_zero, List.set_cons_succ]; rfl) | rfl) ?_
  refine wl_q (q_assign rfl rfl) rfl rfl (by decide) ?_
  refine wl_nil ?_
  refine fq_then ?_
  refine wc_seq ?_
  refine wc_region ?_
  refine wl_callK (ι := Gh) (fun i => .tuple #[.agg #[.bool false, .bool false, .int .i64 0, .int .u64 0, .slice i.1 [].length i.2], .int .i64 11]) (fun i w w' => RowE w' i []) rfl rfl rfl (by decide) En11 rfl (fun w1 hw1 => parseE (m := false) (g := false) (c := 0) (b := 0) (L := []) (err := 11) ex2_tick w1 (hL.below (hw1.toBelow (by simp)))) (fun p2 wa_ w_3 _ Hn_ _ hC_ => ?_)
  have hx_ := Hn_.toBelow (by simp)
  have fb_b2 : Blk w_3 b2 _ _ := Hn_.get (i := 0) rfl
  have hL := hL.below hx_
  have hE_p1 := hE_p1.below hx_
  have hB := hB.next hx_
  have hE_p2 := hC_
  refine wl_q (q_move rfl rfl) rfl rfl (by decide) ?_
  refine wl_q (q_extract rfl rfl rfl) rfl rfl (by decide) ?_
  refine wl_q (q_extract rfl rfl rfl) rfl rfl (by decide) ?_
  refine wl_alloc rfl rfl rfl (by decide) Zr25 (fun b4 => ?_)
  refine wl_store (i := 0) rfl rfl rfl rfl rfl rfl Sz25 rfl rfl (by simp) (by simp [Value.oneCell']) (by first | (simp only [List.take_succ_cons, List.take_zero, List.take_nil, List.drop_succ_cons, List.drop_zero, List.drop_nil, List.nil_append, List.cons_append, List.append_nil, List.length_cons, List.length_nil, Nat.reduceAdd, Nat.zero_add]; rfl) | rfl) (by first | (simp only [List.set_cons_zero, List.set_cons_succ]; rfl) | rfl) ?_
  refine wl_q (q_assign rfl rfl) rfl rfl (by decide) ?_
  refine wl_nil ?_
  refine fq_then ?_
  refine wc_seq ?_
  obtain ⟨ad1, hA1, hr1⟩ := hE_p1.at (i := 0) (e := ⟨1, 0, 3⟩) rfl
  refine wc_region ?_
  refine wl_q (q_move rfl rfl) rfl rfl (by decide) ?_
  refine wl_q (OpQ.to (q_bin rfl rfl rfl rfl) (congrArg Value.bool (by rfl))) rfl rfl (by decide) ?_
  refine wl_q (q_move rfl rfl) rfl rfl (by decide) ?_
  refine wl_want (b := true) (q_fa (o1 := 0) rfl rfl Fo25_0 rfl) rfl rfl rfl rfl (by decide) ?_
  refine wl_want (b := true) (q_load rfl rfl Mn4 (reads_blk (by simp) fb_b2 rfl)) rfl rfl rfl rfl (by decide) ?_
  refine wl_q (q_pick rfl rfl rfl) rfl rfl (by decide) ?_
  refine wl_q (q_move rfl rfl) rfl rfl (by decide) ?_
  refine wl_want (b := true) (q_fa (o1 := 1) rfl rfl Fo25_1 rfl) rfl rfl rfl rfl (by decide) ?_
  refine wl_want (b := true) (q_load rfl rfl Mn4 (reads_blk (by simp) fb_b2 rfl)) rfl rfl rfl rfl (by decide) ?_
  refine wl_want (b := true) (q_not rfl rfl) rfl rfl rfl rfl (by decide) ?_
  refine wl_q (q_pick rfl rfl rfl) rfl rfl (by decide) ?_
  refine wl_q (q_move rfl rfl) rfl rfl (by decide) ?_
  refine wl_want (b := true) (q_fa (o1 := 4) rfl rfl Fo25_4 rfl) rfl rfl rfl rfl (by decide) ?_
  refine wl_want (b := true) (q_load rfl rfl Mn23 (reads_blk (by simp) fb_b2 rfl)) rfl rfl rfl rfl (by decide) ?_
  refine wl_want (b := true) (q_len rfl rfl Tryz.underlying23) rfl rfl rfl rfl (by decide) ?_
  refine wl_want (b := true) (OpQ.to (q_bin rfl rfl rfl rfl) (congrArg Value.bool (by rfl))) rfl rfl rfl rfl (by decide) ?_
  refine wl_q (q_pick rfl rfl rfl) rfl rfl (by decide) ?_
  refine wl_q (q_move rfl rfl) rfl rfl (by decide) ?_
  refine wl_want (b := true) (q_fa (o1 := 4) rfl rfl Fo25_4 rfl) rfl rfl rfl rfl (by decide) ?_
  refine wl_want (b := true) (q_load rfl rfl Mn23 (reads_blk (by simp) fb_b2 rfl)) rfl rfl rfl rfl (by decide) ?_
  refine wl_want (b := true) (q_indexO rfl rfl hA1 rfl Tryz.underlying23 Sz49 (by decide) (by decide)) rfl rfl rfl rfl (by decide) ?_
  refine wl_want (b := true) (q_loadA rfl rfl Mn49 Sz49 rfl (reads_old (cs := [.int .i64 1, .int .i64 0, .int .i64 3]) (by simp) hr1)) rfl rfl rfl rfl (by decide) ?_
  refine wl_want (b := true) (q_build rfl rfl (built_of Zr49 Pl49 (by simp only [fillL, List.map_cons, List.map_nil, Value.cells, List.getElem?_cons_zero, List.getElem?_cons_succ, List.length_cons, List.length_nil, Nat.reduceAdd, Nat.reduceLeDiff, Nat.le_refl, and_self, and_true, true_and, if_true, Nat.zero_add, spl, List.take_succ_cons, List.take_zero, List.take_nil, List.drop_succ_cons, List.drop_zero, List.drop_nil, List.nil_append, List.cons_append, List.append_nil] <;> rfl))) rfl rfl rfl rfl (by decide) ?_
  refine wl_want (b := true) (OpQ.to (q_eqAgg (c := true) rfl (.inl rfl) rfl rfl (by kernel_rfl) (fun w1 => eq49 w1 _ _ _ _ _ _)) rfl) rfl rfl rfl rfl (by decide) ?_
  refine wl_q (q_pick rfl rfl rfl) rfl rfl (by decide) ?_
  refine wl_q (q_move rfl rfl) rfl rfl (by decide) ?_
  refine wl_want (b := true) (q_move rfl rfl) rfl rfl rfl rfl (by decide) ?_
  refine wl_want (b := true) (OpQ.to (q_bin rfl rfl rfl rfl) (congrArg Value.bool (by rfl))) rfl rfl rfl rfl (by decide) ?_
  refine wl_q (q_pick rfl rfl rfl) rfl rfl (by decide) ?_
  refine wl_q (q_move rfl rfl) rfl rfl (by decide) ?_
  refine wl_want (b := true) (q_loadA rfl rfl Mn25 Sz25 rfl (reads_blkA (by simp) fb_b2)) rfl rfl rfl rfl (by decide) ?_
  refine wl_want (b := true) (q_call rfl En8 rfl (fun w1 hw1 => put_calls true false 0 0 p1 [⟨1, 0, 3⟩] w1 (hL.below (hw1.toBelow (by simp))) (hE_p1.below (hw1.toBelow (by simp))) (by unfold i64r; decide) (by decide) (by decide) (by unfold i64r; decide))) rfl rfl rfl rfl (by decide) ?_
  refine wl_want (b := true) (q_eqlStr (c := true) rfl (.inl ⟨rfl, show ((putS true false 0 0 [⟨1, 0, 3⟩]).toList == ex1.toList) = true from by rw [ex1_put]; exact beq_self_eq_true _⟩) rfl rfl (fun w => rfl)) rfl rfl rfl rfl (by decide) ?_
  refine wl_q (q_pick rfl rfl rfl) rfl rfl (by decide) ?_
  refine wl_q (q_move rfl rfl) rfl rfl (by decide) ?_
  refine wl_want (b := true) (q_call rfl En15 rfl (fun w1 hw1 => show_nil w1)) rfl rfl rfl rfl (by decide) ?_
  refine wl_want (b := true) (q_eqlStr (c := true) rfl (.inl ⟨rfl, by simp⟩) rfl rfl (fun w => rfl)) rfl rfl rfl rfl (by decide) ?_
  refine wl_q (q_pick rfl rfl rfl) rfl rfl (by decide) ?_
  refine wl_q (q_assign rfl rfl) rfl rfl (by decide) ?_
  refine wl_nil ?_
  refine fq_then ?_
  refine wc_ret ?_
  refine fq_ret1 rfl rfl (fun w1 H => ?_)
  exact ⟨rfl, (by first | exact hB.next (H.toBelow (by simp)) | exact H.toBelow (by simp))⟩
end Go.Proofs.YtglgipggefpoiaaGreatDoor.SF
end
section
namespace Go.Proofs.YtglgipggefpoiaaGreatDoor.SF
open Go.RowKit Go.Sx Go.Proofs.YtglgipggefpoiaaGreatDoor.PAll Go.Proofs.YtglgipggefpoiaaGreatDoorW.PrintWords Go.Proofs.YtglgipggefpoiaaGreatDoorW.PrintLast Go.Proofs.YtglgipggefpoiaaGreatDoorW.PrintMore
set_option linter.unusedVariables false
set_option linter.unusedSimpArgs false
set_option maxRecDepth 100000
theorem RowQ.at {w : World} {q : Gh} {l : List S45} {i : Nat} {e : S45} (h : RowQ w q l) (hi : l[i]? = some e) : ∃ ad, q.1 = some ad ∧ ∀ (j : Nat) (u : Value), ([.int .i64 e.f0, .int .i64 e.f1, .int .i64 e.f2] : List Value)[j]? = some u → w.cell? ((ad.add ((i : Int).toNat * 3)).add j) = some u := by
  have hlt := (List.getElem?_eq_some_iff.1 hi).1
  obtain ⟨ad, c, e1, _, hK, hc0⟩ := Kd.C_get h.2 z45 (i : Int) (by omega) (by omega)
  have he : l.getD (i : Int).toNat z45 = e := by rw [Int.toNat_natCast, List.getD_eq_getElem?_getD, hi]; rfl
  rw [he] at hK
  obtain rfl := k45_open hK
  exact ⟨ad, e1, fun j u hu => by rw [Sx.add_add]; exact hc0 j u hu⟩
end Go.Proofs.YtglgipggefpoiaaGreatDoor.SF
end
section
namespace Go.Proofs.YtglgipggefpoiaaGreatDoor.SF
open Go.RowKit Go.Sx Go.Proofs.YtglgipggefpoiaaGreatDoor.PAll Go.Proofs.YtglgipggefpoiaaGreatDoorW.PrintWords Go.Proofs.YtglgipggefpoiaaGreatDoorW.PrintLast Go.Proofs.YtglgipggefpoiaaGreatDoorW.PrintMore
set_option linter.unusedVariables false
set_option linter.unusedSimpArgs false
set_option maxRecDepth 100000
def RowN (k : IntKind) (w : World) (q : Gh) (l : List Int) : Prop := l.length ≤ q.2 ∧ (Kd.int k).C w q.1 l.length l
theorem RowN.below {k : IntKind} {w w' : World} {q : Gh} {l : List Int} (h : RowN k w q l) (hb : Below w.heap.size w w') : RowN k w' q l := ⟨h.1, Kd.C_below h.2 hb⟩
theorem RowN.at {k : IntKind} {w : World} {q : Gh} {l : List Int} {i : Nat} {x : Int} (h : RowN k w q l) (hi : l[i]? = some x) : ∃ ad, q.1 = some ad ∧ w.cell? (ad.add ((i : Int).toNat * 1)) = some (.int k x) := by
  have hlt := (List.getElem?_eq_some_iff.1 hi).1
  obtain ⟨ad, c, e1, _, hK, hc0⟩ := Kd.C_get h.2 0 (i : Int) (by omega) (by omega)
  rw [List.getD_eq_getElem?_getD, Int.toNat_natCast, hi] at hK
  cases hK
  exact ⟨ad, e1, hc0 0 _ rfl⟩
theorem put_pos (m g : Bool) (c : Int) (b : Nat) (l : List S49) : 0 < (putS m g c b l).size := by
  have h : (putS m g c b l).size = (jn ((putW m g c b l).map (·.data.toList))).length := by rw [← putS_data]; simp
  rw [h]
  unfold putW headW
  simp only [List.cons_append, List.map_cons, jn, List.length_append, List.length_cons]
  omega
theorem evs_len_le : ∀ (K : Nat) (ws : List ByteArray) (L : List S49), evsF K ws = some L → L.length ≤ ws.length
  | _, [], L, h => by rw [evs_nil] at h; cases h; exact Nat.le_refl _
  | 0, w :: ws, L, h => by simp [evsF] at h
  | K + 1, w :: ws, L, h => by
    rw [evsF] at h
    split at h
    · cases h
    · have hr := rest_lt (ws := w :: ws) (by simp)
      cases he : evsF K (evRest (w :: ws)) with
      | none => rw [he] at h; cases h
      | some L2 =>
        rw [he] at h
        cases h
        have := evs_len_le K _ L2 he
        rw [List.length_cons]
        omega
theorem tick_len {s : ByteArray} {m g : Bool} {c : Int} {b : Nat} {L : List S49} {err : Int} (h : tickP s = ((m, g, c, b, L), err)) : L.length ≤ s.size + 2 := by
  unfold tickP at h
  split at h
  · cases h; simp
  · have hc := count_len s
    split at h
    · cases h; simp
    · rename_i t ht
      cases h
      unfold tickW at ht
      split at ht
      · cases ht
      · split at ht
        · cases ht
        · cases he : evsF (splW s).length (splW s).tail.tail.tail.tail with
          | none => rw [he] at ht; cases ht
          | some L2 =>
            rw [he] at ht
            cases ht
            have := evs_len_le _ _ _ he
            simp only [List.length_tail] at this
            omega
theorem rparseE {s : ByteArray} {m g : Bool} {c : Int} {b : Nat} {L : List S49} {err : Int} (h : tickP s = ((m, g, c, b, L), err)) (hs : s.size ≤ 100000) (w : World) : Calls Tryz.prog 12 #[.string s] w fun e w' => ∃ q : Gh, RowQ w' q (L.map to45) ∧ e = .returned (.tuple #[.agg #[.bool m, .bool g, .int .i64 c, .int .u64 b, .slice q.1 L.length q.2], .int .i64 err]) ∧ Below w.heap.size w w' := by
  have := rparse_calls s hs w
  rw [h] at this
  exact this
theorem mod_rng {a : Int} {n : Nat} (ha : 0 ≤ a ∧ a < 65536) (hn : 0 < n) : 0 ≤ Int.tmod (IntKind.i64.wrap a) (n : Int) ∧ Int.tmod (IntKind.i64.wrap a) (n : Int) < n := by
  rw [wrap_id (by omega), Int.tmod_eq_emod_of_nonneg ha.1]
  have h1 := Int.emod_nonneg a (show (n : Int) ≠ 0 by omega)
  have h2 := Int.emod_lt_of_pos a (show (0 : Int) < n by omega)
  omega
set_option maxHeartbeats 2000000 in
theorem parses_law (m g : Bool) (c : Int) (b : Nat) (q : Gh) (l : List S49) (w : World) (hr : RowE w q l) (hc : i64r c) (hb : b < 18446744073709551616) (he : ∀ e ∈ l, i64r e.f1 ∧ i64r e.f2) (hL : Lw w) (qa qx : Gh) (la lx : List Int) (line : ByteArray) (hat : RowN .u16 w qa la) (har : ∀ a ∈ la, 0 ≤ a ∧ a < 65536) (hax : RowN .u8 w qx lx) : Calls Tryz.prog 4 #[.agg #[.bool m, .bool g, .int .i64 c, .int .u64 b, .slice q.1 l.length q.2], .slice qa.1 la.length qa.2, .slice qx.1 lx.length qx.2, .string line] w fun e w' => e = .returned (.bool true) ∧ Below w.heap.size w w' := by
  have hpp := put_pos m g c b l
  refine enter (w0 := w) (hp := [old w]) (env := [(0, .agg #[.bool m, .bool g, .int .i64 c, .int .u64 b, .slice q.1 l.length q.2]), (1, .slice qa.1 la.length qa.2), (2, .slice qx.1 lx.length qx.2), (3, .string line)]) Tryz.func4 rfl 97 rfl (by simp) rfl (HeapOK.start _) ?_
  refine wc_seq ?_
  refine wc_region ?_
  refine wl_box rfl rfl rfl (by decide) rfl rfl (fun b1 => ?_)
  refine wl_q (q_assign rfl rfl) rfl rfl (by decide) ?_
  refine wl_nil ?_
  refine fq_then ?_
  refine wc_seq ?_
  refine wc_region ?_
  refine wl_q (q_call rfl En7 rfl (fun w1 hw1 => awake_calls w1 (hL.below (hw1.toBelow (by simp))))) rfl rfl (by decide) ?_
  refine wl_q (q_assign rfl rfl) rfl rfl (by decide) ?_
  refine wl_nil ?_
  refine fq_then ?_
  refine wc_seq ?_
  refine wc_seq ?_
  refine wc_region ?_
  refine wl_q (q_move rfl rfl) rfl rfl (by decide) ?_
  refine wl_q (q_not rfl rfl) rfl rfl (by decide) ?_
  refine wl_nil ?_
  refine fq_then ?_
  refine wc_false rfl ?_
  refine wc_skip ?_
  refine fq_then ?_
  refine wc_seq ?_
  refine wc_seq ?_
  skip
  refine wc_region ?_
  refine wl_q (q_fa (o1 := 4) rfl rfl Fo25_4 rfl) rfl rfl (by decide) ?_
  refine wl_q (q_load rfl rfl Mn23 (reads1 (i := 0) rfl rfl)) rfl rfl (by decide) ?_
  refine wl_q (q_len rfl rfl Tryz.underlying23) rfl rfl (by decide) ?_
  refine wl_q (q_bin rfl rfl rfl rfl) rfl rfl (by decide) ?_
  refine wl_q (q_move rfl rfl) rfl rfl (by decide) ?_
  refine wl_split (t := 25) rfl (fun h25 => ?_) (fun h25 => ?_)
  · skip
    have q25 := h25
    try simp only [decide_eq_true_eq, decide_eq_false_iff_not, beq_iff_eq, beq_eq_false_iff_ne, bne_iff_ne, ne_eq, bne_eq_false_iff_eq, Int.not_lt, Int.not_le] at q25
    refine wl_skip (b := true) rfl rfl rfl rfl (by decide) ?_
    refine wl_skip (b := true) rfl rfl rfl rfl (by decide) ?_
    refine wl_skip (b := true) rfl rfl rfl rfl (by decide) ?_
    refine wl_q (q_pick rfl rfl rfl) rfl rfl (by decide) ?_
    refine wl_q (q_move rfl rfl) rfl rfl (by decide) ?_
    refine wl_skip (b := true) rfl rfl rfl rfl (by decide) ?_
    refine wl_skip (b := true) rfl rfl rfl rfl (by decide) ?_
    refine wl_skip (b := true) rfl rfl rfl rfl (by decide) ?_
    refine wl_skip (b := true) rfl rfl rfl rfl (by decide) ?_
    refine wl_skip (b := true) rfl rfl rfl rfl (by decide) ?_
    refine wl_q (q_pick rfl rfl rfl) rfl rfl (by decide) ?_
    refine wl_q (q_move rfl rfl) rfl rfl (by decide) ?_
    refine wl_skip (b := true) rfl rfl rfl rfl (by decide) ?_
    refine wl_skip (b := true) rfl rfl rfl rfl (by decide) ?_
    refine wl_skip (b := true) rfl rfl rfl rfl (by decide) ?_
    refine wl_q (q_pick rfl rfl rfl) rfl rfl (by decide) ?_
    refine wl_nil ?_
    refine fq_then ?_
    refine wc_true rfl ?_
    refine wc_seq ?_
    refine wc_region ?_
    refine wl_q (q_assign rfl rfl) rfl rfl (by decide) ?_
    refine wl_nil ?_
    refine fq_then ?_
    refine wc_ret ?_
    refine fq_then_ret ?_
    refine fq_ret1 rfl rfl (fun w1 H => ?_)
    exact ⟨rfl, (by first | exact hB.next (H.toBelow (by simp)) | exact H.toBelow (by simp))⟩
  · skip
    have q25 := h25
    try simp only [decide_eq_true_eq, decide_eq_false_iff_not, beq_iff_eq, beq_eq_false_iff_ne, bne_iff_ne, ne_eq, bne_eq_false_iff_eq, Int.not_lt, Int.not_le] at q25
    refine wl_want (b := false) (q_move rfl rfl) rfl rfl rfl rfl (by decide) ?_
    refine wl_want (b := false) (q_len rfl rfl Tryz.underlying34) rfl rfl rfl rfl (by decide) ?_
    refine wl_want (b := false) (q_bin rfl rfl rfl rfl) rfl rfl rfl rfl (by decide) ?_
    refine wl_q (q_pick rfl rfl rfl) rfl rfl (by decide) ?_
    refine wl_q (q_move rfl rfl) rfl rfl (by decide) ?_
    refine wl_split (t := 30) rfl (fun h30 => ?_) (fun h30 => ?_)
    · skip
      have q30 := h30
      try simp only [decide_eq_true_eq, decide_eq_false_iff_not, beq_iff_eq, beq_eq_false_iff_ne, bne_iff_ne, ne_eq, bne_eq_false_iff_eq, Int.not_lt, Int.not_le] at q30
      refine wl_skip (b := true) rfl rfl rfl rfl (by decide) ?_
      refine wl_skip (b := true) rfl rfl rfl rfl (by decide) ?_
      refine wl_skip (b := true) rfl rfl rfl rfl (by decide) ?_
      refine wl_skip (b := true) rfl rfl rfl rfl (by decide) ?_
      refine wl_skip (b := true) rfl rfl rfl rfl (by decide) ?_
      refine wl_q (q_pick rfl rfl rfl) rfl rfl (by decide) ?_
      refine wl_q (q_move rfl rfl) rfl rfl (by decide) ?_
      refine wl_skip (b := true) rfl rfl rfl rfl (by decide) ?_
      refine wl_skip (b := true) rfl rfl rfl rfl (by decide) ?_
      refine wl_skip (b := true) rfl rfl rfl rfl (by decide) ?_
      refine wl_q (q_pick rfl rfl rfl) rfl rfl (by decide) ?_
      refine wl_nil ?_
      refine fq_then ?_
      refine wc_true rfl ?_
      refine wc_seq ?_
      refine wc_region ?_
      refine wl_q (q_assign rfl rfl) rfl rfl (by decide) ?_
      refine wl_nil ?_
      refine fq_then ?_
      refine wc_ret ?_
      refine fq_then_ret ?_
      refine fq_ret1 rfl rfl (fun w1 H => ?_)
      exact ⟨rfl, (by first | exact hB.next (H.toBelow (by simp)) | exact H.toBelow (by simp))⟩
    · skip
      have q30 := h30
      try simp only [decide_eq_true_eq, decide_eq_false_iff_not, beq_iff_eq, beq_eq_false_iff_ne, bne_iff_ne, ne_eq, bne_eq_false_iff_eq, Int.not_lt, Int.not_le] at q30
      refine wl_want (b := false) (q_move rfl rfl) rfl rfl rfl rfl (by decide) ?_
      refine wl_want (b := false) (q_len rfl rfl Tryz.underlying35) rfl rfl rfl rfl (by decide) ?_
      refine wl_want (b := false) (q_move rfl rfl) rfl rfl rfl rfl (by decide) ?_
      refine wl_want (b := false) (q_len rfl rfl Tryz.underlying34) rfl rfl rfl rfl (by decide) ?_
      refine wl_want (b := false) (q_bin rfl rfl rfl rfl) rfl rfl rfl rfl (by decide) ?_
      refine wl_q (q_pick rfl rfl rfl) rfl rfl (by decide) ?_
      refine wl_q (q_move rfl rfl) rfl rfl (by decide) ?_
      refine wl_split (t := 37) rfl (fun h37 => ?_) (fun h37 => ?_)
      · skip
        have q37 := h37
        try simp only [decide_eq_true_eq, decide_eq_false_iff_not, beq_iff_eq, beq_eq_false_iff_ne, bne_iff_ne, ne_eq, bne_eq_false_iff_eq, Int.not_lt, Int.not_le] at q37
        refine wl_skip (b := true) rfl rfl rfl rfl (by decide) ?_
        refine wl_skip (b := true) rfl rfl rfl rfl (by decide) ?_
        refine wl_skip (b := true) rfl rfl rfl rfl (by decide) ?_
        refine wl_q (q_pick rfl rfl rfl) rfl rfl (by decide) ?_
        refine wl_nil ?_
        refine fq_then ?_
        refine wc_true rfl ?_
        refine wc_seq ?_
        refine wc_region ?_
        refine wl_q (q_assign rfl rfl) rfl rfl (by decide) ?_
        refine wl_nil ?_
        refine fq_then ?_
        refine wc_ret ?_
        refine fq_then_ret ?_
        refine fq_ret1 rfl rfl (fun w1 H => ?_)
        exact ⟨rfl, (by first | exact hB.next (H.toBelow (by simp)) | exact H.toBelow (by simp))⟩
      · skip
        have q37 := h37
        try simp only [decide_eq_true_eq, decide_eq_false_iff_not, beq_iff_eq, beq_eq_false_iff_ne, bne_iff_ne, ne_eq, bne_eq_false_iff_eq, Int.not_lt, Int.not_le] at q37
        refine wl_want (b := false) (q_move rfl rfl) rfl rfl rfl rfl (by decide) ?_
        refine wl_want (b := false) (q_lenS rfl rfl Tryz.underlying9) rfl rfl rfl rfl (by decide) ?_
        refine wl_want (b := false) (q_bin rfl rfl rfl rfl) rfl rfl rfl rfl (by decide) ?_
        refine wl_q (q_pick rfl rfl rfl) rfl rfl (by decide) ?_
        refine wl_nil ?_
        refine fq_then ?_
        refine wc_cond rfl (fun h41 => ?_) (fun h41 => ?_)
        · skip
          have q41 := h41
          try simp only [decide_eq_true_eq, decide_eq_false_iff_not, beq_iff_eq, beq_eq_false_iff_ne, bne_iff_ne, ne_eq, bne_eq_false_iff_eq, Int.not_lt, Int.not_le] at q41
          refine wc_seq ?_
          refine wc_region ?_
          refine wl_q (q_assign rfl rfl) rfl rfl (by decide) ?_
          refine wl_nil ?_
          refine fq_then ?_
          refine wc_ret ?_
          refine fq_then_ret ?_
          refine fq_ret1 rfl rfl (fun w1 H => ?_)
          exact ⟨rfl, (by first | exact hB.next (H.toBelow (by simp)) | exact H.toBelow (by simp))⟩
        · skip
          have q41 := h41
          try simp only [decide_eq_true_eq, decide_eq_false_iff_not, beq_iff_eq, beq_eq_false_iff_ne, bne_iff_ne, ne_eq, bne_eq_false_iff_eq, Int.not_lt, Int.not_le] at q41
          refine wc_skip ?_
          refine fq_then ?_
          refine wc_seq ?_
          have hpl := put_len m g hc hb he
          refine wc_region ?_
          refine wl_q (q_loadA rfl rfl Mn25 Sz25 rfl (readsAll (i := 0) rfl)) rfl rfl (by decide) ?_
          refine wl_q (q_call rfl En8 rfl (fun w1 hw1 => put_calls m g c b q l w1 (hL.below (hw1.toBelow (by simp))) (hr.below (hw1.toBelow (by simp))) hc hb (by omega) he)) rfl rfl (by decide) ?_
          refine wl_strBytes rfl rfl rfl (by decide) rfl Tryz.underlying9 Tryz.underlying35 Tryz.underlying5 (fun bb cb pad => ?_)
          skip
          refine wl_q (q_assign rfl rfl) rfl rfl (by decide) ?_
          refine wl_nil ?_
          refine fq_then ?_
          refine wc_seq ?_
          refine wc_seq ?_
          refine wc_region ?_
          refine wl_q (q_assign rfl rfl) rfl rfl (by decide) ?_
          refine wl_nil ?_
          refine fq_then ?_
          refine wc_block ?_
          refine wc_loop (ι := (Nat × List Int)) (fun ⟨j, bs⟩ => [(1, .slice qa.1 la.length qa.2), (2, .slice qx.1 lx.length qx.2), (3, .string line), (10, .slice (some ⟨bb, 0, none⟩) (putS m g c b l).size cb), (11, .int .i64 (j : Nat))]) (fun ⟨j, bs⟩ => [.obj bb (bobj 5 bs pad), old w]) (fun ⟨j, bs⟩ => j ≤ la.length ∧ bs.length = (putS m g c b l).size) (fun ⟨j, bs⟩ => la.length - j) (0, byteInts (putS m g c b l)) ⟨Nat.zero_le _, byteInts_length _⟩ ⟨List.forall_mem_cons.2 ⟨rfl, List.forall_mem_cons.2 ⟨rfl, List.forall_mem_cons.2 ⟨rfl, List.forall_mem_cons.2 ⟨rfl, List.forall_mem_cons.2 ⟨rfl, fun _ h => (by cases h)⟩⟩⟩⟩⟩, List.Sublist.cons_cons _ (List.Sublist.cons _ (List.Sublist.cons_cons _ (List.Sublist.refl [])))⟩ ?_
          rintro ⟨j, bs⟩ ⟨hj, hbs⟩
          dsimp only at hj hbs ⊢
          refine wc_seq ?_
          refine wc_seq ?_
          refine wc_region ?_
          refine wl_q (q_move rfl rfl) rfl rfl (by decide) ?_
          refine wl_q (q_move rfl rfl) rfl rfl (by decide) ?_
          refine wl_q (q_len rfl rfl Tryz.underlying34) rfl rfl (by decide) ?_
          refine wl_q (q_bin rfl rfl rfl rfl) rfl rfl (by decide) ?_
          refine wl_q (q_move rfl rfl) rfl rfl (by decide) ?_
          refine wl_split (t := 49) rfl (fun h49 => ?_) (fun h49 => ?_)
          · skip
            have q49 := h49
            try simp only [decide_eq_true_eq, decide_eq_false_iff_not, beq_iff_eq, beq_eq_false_iff_ne, bne_iff_ne, ne_eq, bne_eq_false_iff_eq, Int.not_lt, Int.not_le] at q49
            refine wl_want (b := true) (q_move rfl rfl) rfl rfl rfl rfl (by decide) ?_
            refine wl_want (b := true) (q_len rfl rfl Tryz.underlying35) rfl rfl rfl rfl (by decide) ?_
            refine wl_want (b := true) (OpQ.to (q_bin rfl rfl rfl rfl) (congrArg Value.bool (show decide _ = true by rw [decide_eq_true_eq]; omega))) rfl rfl rfl rfl (by decide) ?_
            refine wl_q (q_pick rfl rfl rfl) rfl rfl (by decide) ?_
            refine wl_nil ?_
            refine fq_then ?_
            refine wc_true rfl ?_
            refine wc_skip ?_
            refine fq_then ?_
            refine wc_seq ?_
            refine wc_block ?_
            obtain ⟨a_, ha_⟩ : ∃ a, la[j]? = some a := ⟨_, List.getElem?_eq_getElem (by omega)⟩
            obtain ⟨x_, hx_⟩ : ∃ a, lx[j]? = some a := ⟨_, List.getElem?_eq_getElem (by omega)⟩
            obtain ⟨adA, hA, hra⟩ := hat.at ha_
            obtain ⟨adX, hX, hrx⟩ := hax.at hx_
            obtain ⟨hv0, hv1⟩ := mod_rng (har a_ (List.mem_of_getElem? ha_)) hpp
            refine wc_draw 14 Fol (by kernel_rfl) (Chain.yield (q_move rfl rfl) rfl rfl (Chain.yield (q_move rfl rfl) rfl rfl (Chain.yield (q_move rfl rfl) rfl rfl (Chain.yield (q_indexO rfl rfl hA rfl Tryz.underlying34 Sz36 (by omega) (by omega)) rfl rfl (Chain.yield (q_load rfl rfl Mn36 (reads_old (by simp) (cell_zero hra))) rfl rfl (Chain.yield (q_conv rfl rfl Tryz.underlying36 Tryz.underlying3) rfl rfl (Chain.yield (q_move rfl rfl) rfl rfl (Chain.yield (q_len rfl rfl Tryz.underlying35) rfl rfl (Chain.yield (q_rem rfl rfl rfl (by omega)) rfl rfl (Chain.yield (q_move rfl rfl) rfl rfl (Chain.yield (q_move rfl rfl) rfl rfl (Chain.yield (q_indexO rfl rfl hX rfl Tryz.underlying35 Sz5 (by omega) (by omega)) rfl rfl (Chain.yield (q_load rfl rfl Mn5 (reads_old (by simp) (cell_zero hrx))) rfl rfl (Chain.yield (OpQ.to (q_index rfl rfl rfl Tryz.underlying35 Sz5 hv0 hv1) (show Value.pointer (some ((⟨bb, 0, none⟩ : Addr).add ((Int.tmod (IntKind.i64.wrap a_) (putS m g c b l).size).toNat * 1))) = .pointer (some ⟨bb, (Int.tmod (IntKind.i64.wrap a_) (putS m g c b l).size).toNat, none⟩) from by rw [Addr.add_lit, Nat.zero_add, Nat.mul_one])) rfl rfl (Chain.nil _))))))))))))))) ?_
            refine wl_storeO (i := 0) (bs := bs) (pad := pad) (off := (Int.tmod (IntKind.i64.wrap a_) (putS m g c b l).size).toNat) rfl rfl rfl rfl rfl rfl Sz5 (by omega) rfl ?_
            skip
            refine wl_nil ?_
            refine fq_block ?_
            refine fq_then ?_
            refine wc_region ?_
            refine wl_q (q_move rfl rfl) rfl rfl (by decide) ?_
            refine wl_q (q_bin rfl rfl rfl rfl) rfl rfl (by decide) ?_
            refine wl_q (q_assign rfl rfl) rfl rfl (by decide) ?_
            refine wl_nil ?_
            refine fq_next (j + 1, bs.set (Int.tmod (IntKind.i64.wrap a_) (putS m g c b l).size).toNat x_) ⟨by omega, by rw [List.length_set]; exact hbs⟩ (show la.length - (j + 1) < la.length - j by omega) ⟨List.forall_mem_cons.2 ⟨rfl, List.forall_mem_cons.2 ⟨rfl, List.forall_mem_cons.2 ⟨rfl, List.forall_mem_cons.2 ⟨rfl, List.forall_mem_cons.2 ⟨(show some (Value.int .i64 (IntKind.i64.wrap ((j : Int) + 1))) = some (Value.int .i64 ((j + 1 : Nat) : Int)) from by rw [wrap_nat (by omega)]), fun _ h => (by cases h)⟩⟩⟩⟩⟩, List.Sublist.refl _⟩
          · skip
            have q49 := h49
            try simp only [decide_eq_true_eq, decide_eq_false_iff_not, beq_iff_eq, beq_eq_false_iff_ne, bne_iff_ne, ne_eq, bne_eq_false_iff_eq, Int.not_lt, Int.not_le] at q49
            refine wl_skip (b := false) rfl rfl rfl rfl (by decide) ?_
            refine wl_skip (b := false) rfl rfl rfl rfl (by decide) ?_
            refine wl_skip (b := false) rfl rfl rfl rfl (by decide) ?_
            refine wl_q (q_pick rfl rfl rfl) rfl rfl (by decide) ?_
            refine wl_nil ?_
            refine fq_then ?_
            refine wc_false rfl ?_
            refine wc_exit ?_
            refine fq_then_exit ?_
            refine fq_then_exit ?_
            refine fq_block_hit ?_
            refine fq_then ?_
            refine wc_seq ?_
            refine wc_region ?_
            refine wl_q (q_move rfl rfl) rfl rfl (by decide) ?_
            refine wl_q (q_objStr (i := 0) (bs := bs) (pad := pad) rfl rfl Tryz.underlying35 Tryz.underlying5 Tryz.underlying9 rfl hbs.symm (by omega)) rfl rfl (by decide) ?_
            refine wl_q (q_assign rfl rfl) rfl rfl (by decide) ?_
            refine wl_nil ?_
            refine fq_then ?_
            refine wc_seq ?_
            refine wc_seq ?_
            refine wc_region ?_
            refine wl_q (q_assign rfl rfl) rfl rfl (by decide) ?_
            refine wl_nil ?_
            refine fq_then ?_
            refine wc_block ?_
            refine wc_ground (fun w_2 Hn_ => ?_)
            have hx_ := Hn_.toBelow (by simp)
            have hL := hL.below hx_
            have hr := hr.below hx_
            have hB := hx_
            refine wc_loopW (ι := (Nat × ByteArray × World)) (fun ⟨z, s, W⟩ => [(3, .string line), (12, .string s), (13, .int .i64 (z : Nat))]) (fun ⟨z, s, W⟩ => W) (fun ⟨z, s, W⟩ => z ≤ 2 ∧ s.size ≤ 10000 ∧ Below w_2.heap.size w_2 W) (fun ⟨z, s, W⟩ => 2 - z) (0, strOfNums bs, w_2) rfl ⟨Nat.zero_le _, by rw [strOfNums_size]; omega, Below.refl _ _⟩ (by simp) (List.forall_mem_cons.2 ⟨rfl, List.forall_mem_cons.2 ⟨rfl, List.forall_mem_cons.2 ⟨rfl, fun _ h => (by cases h)⟩⟩⟩) (fun i hi => hi.2.2) ?_
            rintro ⟨z, s, W⟩ ⟨hz, hss, hbW⟩
            have hL := hL.below hbW
            have hr := hr.below hbW
            have hB := hB.next hbW
            dsimp only at hz hss hbW ⊢
            obtain ⟨⟨⟨m1, g1, c1, b1_, L1⟩, e1⟩, hT⟩ : ∃ T, tickP s = T := ⟨_, rfl⟩
            have hLl := tick_len hT
            refine wc_seq ?_
            refine wc_seq ?_
            refine wc_region ?_
            refine wl_q (q_move rfl rfl) rfl rfl (by decide) ?_
            refine wl_q (q_bin rfl rfl rfl rfl) rfl rfl (by decide) ?_
            refine wl_nil ?_
            refine fq_then ?_
            refine wc_cond rfl (fun h73 => ?_) (fun h73 => ?_)
            · skip
              have q73 := h73
              try simp only [decide_eq_true_eq, decide_eq_false_iff_not, beq_iff_eq, beq_eq_false_iff_ne, bne_iff_ne, ne_eq, bne_eq_false_iff_eq, Int.not_lt, Int.not_le] at q73
              refine wc_skip ?_
              refine fq_then ?_
              refine wc_seq ?_
              refine wc_block ?_
              refine wc_seq ?_
              refine wc_region ?_
              refine wl_q (q_move rfl rfl) rfl rfl (by decide) ?_
              refine wl_callK (ι := Gh) (fun i => .tuple #[.agg #[.bool m1, .bool g1, .int .i64 c1, .int .u64 b1_, .slice i.1 L1.length i.2], .int .i64 e1]) (fun i w w' => RowE w' i L1) rfl rfl rfl (by decide) En11 rfl (fun w1 hw1 => parseE (m := m1) (g := g1) (c := c1) (b := b1_) (L := L1) (err := e1) hT w1 (hL.below (hw1.toBelow (by simp)))) (fun p1 wa_ w_3 _ Hn_ _ hC_ => ?_)
              have hx_ := Hn_.toBelow (by simp)
              have hL := hL.below hx_
              have hr := hr.below hx_
              have hbW := hbW.next hx_
              have hB := hB.next hx_
              have hE_p1 := hC_
              refine wl_q (q_move rfl rfl) rfl rfl (by decide) ?_
              refine wl_q (q_extract rfl rfl rfl) rfl rfl (by decide) ?_
              refine wl_q (q_extract rfl rfl rfl) rfl rfl (by decide) ?_
              refine wl_alloc rfl rfl rfl (by decide) Zr25 (fun b4 => ?_)
              refine wl_store (i := 0) rfl rfl rfl rfl rfl rfl Sz25 rfl rfl (by simp) (by simp [Value.oneCell', Sx.spl]) (by first | (simp only [List.take_succ_cons, List.take_zero, List.take_nil, List.drop_succ_cons, List.drop_zero, List.drop_nil, List.nil_append, List.cons_append, List.append_nil, List.length_cons, List.length_nil, Nat.reduceAdd, Nat.zero_add]; rfl) | rfl) (by first | (simp only [List.set_cons_zero, List.set_cons_succ]; rfl) | rfl) ?_
              refine wl_q (q_assign rfl rfl) rfl rfl (by decide) ?_
              refine wl_nil ?_
              refine fq_then ?_
              refine wc_seq ?_
              refine wc_region ?_
              refine wl_q (q_move rfl rfl) rfl rfl (by decide) ?_
              refine wl_callK (ι := Gh) (fun i => .tuple #[.agg #[.bool m1, .bool g1, .int .i64 c1, .int .u64 b1_, .slice i.1 L1.length i.2], .int .i64 e1]) (fun i w w' => RowQ w' i (L1.map to45)) rfl rfl rfl (by decide) En12 rfl (fun w1 hw1 => rparseE hT (by omega) w1) (fun r1 wa_ w_5 _ Hn_ _ hC_ => ?_)
              have hx_ := Hn_.toBelow (by simp)
              have fb_b4 : Blk w_5 b4 _ _ := Hn_.get (i := 0) rfl
              have hL := hL.below hx_
              have hr := hr.below hx_
              have hbW := hbW.next hx_
              have hE_p1 := hE_p1.below hx_
              have hB := hB.next hx_
              have hQ_r1 := hC_
              refine wl_q (q_move rfl rfl) rfl rfl (by decide) ?_
              refine wl_q (q_extract rfl rfl rfl) rfl rfl (by decide) ?_
              refine wl_q (q_extract rfl rfl rfl) rfl rfl (by decide) ?_
              refine wl_alloc rfl rfl rfl (by decide) Zr31 (fun b6 => ?_)
              refine wl_store (i := 0) rfl rfl rfl rfl rfl rfl Sz31 rfl rfl (by simp) (by simp [Value.oneCell', Sx.spl]) (by first | (simp only [List.take_succ_cons, List.take_zero, List.take_nil, List.drop_succ_cons, List.drop_zero, List.drop_nil, List.nil_append, List.cons_append, List.append_nil, List.length_cons, List.length_nil, Nat.reduceAdd, Nat.zero_add]; rfl) | rfl) (by first | (simp only [List.set_cons_zero, List.set_cons_succ]; rfl) | rfl) ?_
              refine wl_q (q_assign rfl rfl) rfl rfl (by decide) ?_
              refine wl_nil ?_
              refine fq_then ?_
              refine wc_seq ?_
              refine wc_seq ?_
              refine wc_any Fol (any_drawG (ι := Gh) 10 0 [(5, fun X => [Sx.Item.own 0 45 3 (.slice (X 5).1 L1.length (X 5).2) L1.length ((L1.map to45).flatMap c45)])] [⟨[], [], []⟩, ⟨[], [], []⟩, ⟨[], [], []⟩, ⟨[], [], []⟩, ⟨[], [], []⟩, ⟨[], [], []⟩, ⟨[], [], []⟩, ⟨[], [5], [5]⟩, ⟨[], [], [5]⟩, ⟨[], [], [5]⟩] (by kernel_rfl) (ChainG.yield [] [] (fun X => q_move rfl rfl) rfl rfl (fun _ => rfl) (fun _ _ => rfl) (fun X Y h0 h => ⟨by first | rfl | simp only [h0], by first | rfl | simp only [h0]⟩) (ChainG.yield [] [] (fun X => q_move rfl rfl) rfl rfl (fun _ => rfl) (fun _ _ => rfl) (fun X Y h0 h => ⟨by first | rfl | simp only [h0], by first | rfl | simp only [h0]⟩) (ChainG.yield [] [] (fun X => OpQ.to (q_bin rfl rfl rfl rfl) (congrArg Value.bool (show (e1 != e1) = false by simp))) rfl rfl (fun _ => rfl) (fun _ _ => rfl) (fun X Y h0 h => ⟨by first | rfl | simp only [h0], by first | rfl | simp only [h0]⟩) (ChainG.yield [] [] (fun X => q_move rfl rfl) rfl rfl (fun _ => rfl) (fun _ _ => rfl) (fun X Y h0 h => ⟨by first | rfl | simp only [h0], by first | rfl | simp only [h0]⟩) (ChainG.wantq (b := false) [] [] (fun X => q_loadA rfl rfl Mn25 Sz25 rfl (reads_blkA (by simp) fb_b4)) rfl rfl (fun _ => rfl) rfl (fun _ => rfl) (fun _ _ => rfl) (fun X Y h0 h => ⟨by first | rfl | simp only [h0], by first | rfl | simp only [h0]⟩) (ChainG.opew (b := false) (fun (X : Nat → Gh) => .agg #[.bool m1, .bool g1, .int .i64 c1, .int .u64 b1_, .slice (X 5).1 L1.length (X 5).2]) [] [] (fun X => oe_call rfl En10 rfl (fun R w1 hw1 => (of_calls m1 g1 c1 b1_ p1 L1 w1 (hE_p1.below (hw1.toBelow (by simp))) (by omega)).mono (fun e w' ⟨i, h1, h2⟩ => ⟨i, h1, hw1.lift1 h2⟩))) rfl rfl (fun _ => rfl) rfl (fun X Y h0 h => ⟨by first | rfl | (show (.agg #[.bool m1, .bool g1, .int .i64 c1, .int .u64 b1_, .slice (X 5).1 L1.length (X 5).2] : Value) = .agg #[.bool m1, .bool g1, .int .i64 c1, .int .u64 b1_, .slice (Y 5).1 L1.length (Y 5).2]; simp only [h0]), by first | rfl | (show ([Sx.Item.own 0 45 3 (.slice (X 5).1 L1.length (X 5).2) L1.length ((L1.map to45).flatMap c45)] : List Sx.Item) = [Sx.Item.own 0 45 3 (.slice (Y 5).1 L1.length (Y 5).2) L1.length ((L1.map to45).flatMap c45)]; simp only [h0])⟩) (ChainG.wantq (b := false) [] [] (fun X => q_loadA rfl rfl Mn31 Sz31 rfl (readsAll (i := 0) rfl)) rfl rfl (fun _ => rfl) rfl (fun _ => rfl) (fun _ _ => rfl) (fun X Y h0 h => ⟨by first | rfl | simp only [h0], by first | rfl | simp only [h0]⟩) (ChainG.wantq (b := false) [5] [5] (fun X => q_call rfl En13 rfl (fun w1 hw1 => same_calls m1 g1 c1 b1_ ((X 5).1, (X 5).2) r1 L1 w1 (own45 (hw1.get (i := 0) rfl) (by omega)) (hQ_r1.below (hw1.toBelow (by simp))) (by omega))) rfl rfl (fun _ => rfl) rfl (fun _ => rfl) (fun _ _ => rfl) (fun X Y h0 h => ⟨by first | rfl | simp only [h0, h 5 (by decide)], by first | rfl | simp only [h0, h 5 (by decide)]⟩) (ChainG.wantq (b := false) [] [5] (fun X => q_not rfl rfl) rfl rfl (fun _ => rfl) rfl (fun _ => rfl) (fun _ _ => rfl) (fun X Y h0 h => ⟨by first | rfl | simp only [h0, h 5 (by decide)], by first | rfl | simp only [h0, h 5 (by decide)]⟩) (ChainG.yield [] [5] (fun X => q_pick rfl rfl rfl) rfl rfl (fun _ => rfl) (fun _ _ => rfl) (fun X Y h0 h => ⟨by first | rfl | simp only [h0, h 5 (by decide)], by first | rfl | simp only [h0, h 5 (by decide)]⟩) (ChainG.nil _ _))))))))))) rfl rfl (fun X => [_, _, _]) (fun _ => rfl) (fun X => ?_))
              generalize X 5 = og
              refine wl_nil ?_
              refine fq_then ?_
              refine wc_false rfl ?_
              refine wc_skip ?_
              refine fq_then ?_
              refine wc_region ?_
              refine wl_q (q_move rfl rfl) rfl rfl (by decide) ?_
              refine wl_q (q_assign rfl rfl) rfl rfl (by decide) ?_
              refine wl_nil ?_
              refine fq_block ?_
              refine fq_then ?_
              refine wc_region ?_
              refine wl_q (q_move rfl rfl) rfl rfl (by decide) ?_
              refine wl_q (q_bin rfl rfl rfl rfl) rfl rfl (by decide) ?_
              refine wl_q (q_assign rfl rfl) rfl rfl (by decide) ?_
              refine wl_nil ?_
              refine fq_ground (fun w_7 Hn_ => ?_)
              have hx_ := Hn_.toBelow (by simp)
              have fb_b6 : Blk w_7 b6 _ _ := Hn_.get (i := 1) rfl
              have hL := hL.below hx_
              have hr := hr.below hx_
              have hbW := hbW.next hx_
              have hE_p1 := hE_p1.below hx_
              have fb_b4 := fb_b4.below hx_
              have hQ_r1 := hQ_r1.below hx_
              have hB := hB.next hx_
              exact fq_nextW (z + 1, line, w_7) hbW rfl (by simp) ⟨(show z + 1 ≤ 2 by omega), (show line.size ≤ 10000 by omega), hbW⟩ (show 2 - (z + 1) < 2 - z by omega) (List.forall_mem_cons.2 ⟨rfl, List.forall_mem_cons.2 ⟨rfl, List.forall_mem_cons.2 ⟨(show some (Value.int .i64 (IntKind.i64.wrap ((z : Int) + 1))) = some (Value.int .i64 ((z + 1 : Nat) : Int)) from by rw [wrap_nat (by omega)]), fun _ h => (by cases h)⟩⟩⟩)
            · skip
              have q73 := h73
              try simp only [decide_eq_true_eq, decide_eq_false_iff_not, beq_iff_eq, beq_eq_false_iff_ne, bne_iff_ne, ne_eq, bne_eq_false_iff_eq, Int.not_lt, Int.not_le] at q73
              refine wc_exit ?_
              refine fq_then_exit ?_
              refine fq_then_exit ?_
              refine fq_block_hit ?_
              refine fq_then ?_
              refine wc_seq ?_
              refine wc_region ?_
              refine wl_q (q_assign rfl rfl) rfl rfl (by decide) ?_
              refine wl_nil ?_
              refine fq_then ?_
              refine wc_ret ?_
              refine fq_ret1 rfl rfl (fun w1 H => ?_)
              exact ⟨rfl, (by first | exact hB.next (H.toBelow (by simp)) | exact H.toBelow (by simp))⟩
end Go.Proofs.YtglgipggefpoiaaGreatDoor.SF
end
section
namespace Go.Proofs.YtglgipggefpoiaaGreatDoor.Op
open Go.RowKit Go.Proofs.YtglgipggefpoiaaGreatDoorW.PrintWords
open Go.ChangeShapes Go.WideShapes
structure Opens {α : Type} (K : Kd α) (P : Program) (t : TypeId) (ok : α → Prop) : Prop where
  sz : P.cellsOf t = K.sz
  op : ∀ {H : Type} {enc : TypeId × Value → H} {w : World} {base : Nat} {spare : Nat → Bool} {held : Bool} {fuel : Nat} {cs : List Value} {x : DataW H × List MemPlace},
    DataW.trod enc P w base spare held fuel t cs = some x → ∃ a, K.K w a cs ∧ ok a
theorem Opens.int {P : Program} {t : TypeId} (k : IntKind) (ht : P.underlying t = some (.int k)) (hc : P.cellsOf t = 1) : Opens (Kd.int k) P t (fun n => (Lit.int k n).wf = true) :=
  ⟨hc, fun h => by obtain ⟨n, rfl, _, hw⟩ := DataW.trod_int ht h; exact ⟨n, rfl, hw⟩⟩
theorem Opens.bool {P : Program} {t : TypeId} (ht : P.underlying t = some .bool) (hc : P.cellsOf t = 1) : Opens Kd.bool P t (fun _ => True) :=
  ⟨hc, fun h => by obtain ⟨b, rfl, _⟩ := DataW.trod_bool ht h; exact ⟨b, rfl, trivial⟩⟩
theorem Opens.string {P : Program} {t : TypeId} (ht : P.underlying t = some .string) (hc : P.cellsOf t = 1) : Opens Kd.string P t (fun s => s.size ≤ maxLen) :=
  ⟨hc, fun h => by obtain ⟨s, rfl, _, hw⟩ := DataW.trod_string ht h; exact ⟨s, rfl, hw⟩⟩
theorem cells_at {w : World} {base : Nat} {a : Addr} {n : Nat} {cs : List Value} (h : w.cells? base a n = some cs) : cs.length = n ∧ ∀ i u, cs[i]? = some u → w.cell? (a.add i) = some u := by
  obtain ⟨_, hl, hc⟩ := World.cells?_some h
  refine ⟨hl, fun i u hu => ?_⟩
  have hi : i < n := by have := (List.getElem?_eq_some_iff.1 hu).1; omega
  rw [hc i hi, hu]
theorem Opens.slice {α : Type} {K : Kd α} {P : Program} {t e : TypeId} {ok : α → Prop} (ht : P.underlying t = some (.slice e)) (hc : P.cellsOf t = 1) (h : Opens K P e ok) :
    Opens (Kd.slice e K) P t (fun xs => xs.length ≤ maxLen ∧ ∀ x ∈ xs, ok x) := by
  refine ⟨hc, fun {H enc w base spare held fuel cs x} hx => ?_⟩
  rcases DataW.trod_slice ht hx with ⟨rfl, _⟩ | ⟨a, len, cap, elems, rest, n, _, rfl, _, _, hl, hm, hlen, hel, _, _⟩
  · exact ⟨[], ⟨none, 0, rfl, Nat.le_refl _, rfl, by simp, fun h0 => absurd h0 (by simp)⟩, by simp, by simp⟩
  · have each : ∀ i, i < len → ∃ a', ok a' ∧ ∃ cs, cs.length = K.sz ∧ K.K w a' cs ∧ ∀ j u, cs[j]? = some u → w.cell? (a.add (i * K.sz + j)) = some u := by
      intro i hi
      have h1 := hel i hi
      rw [List.getElem?_eq_getElem (by omega), Option.bind_eq_some_iff] at h1
      obtain ⟨cs', hcs, hy⟩ := h1
      obtain ⟨a', hk, ho⟩ := h.op hy
      obtain ⟨hlc, hcell⟩ := cells_at hcs
      refine ⟨a', ho, cs', by rw [hlc, h.sz], hk, fun j u hu => ?_⟩
      have := hcell j u hu
      rwa [h.sz, Addr.add_add] at this
    have pick : ∀ m, m ≤ len → ∃ xs : List α, xs.length = m ∧ (∀ x ∈ xs, ok x) ∧ ∀ i p, xs[i]? = some p → ∃ cs, cs.length = K.sz ∧ K.K w p cs ∧ ∀ j u, cs[j]? = some u → w.cell? (a.add (i * K.sz + j)) = some u := by
      intro m
      induction m with
      | zero => intro _; exact ⟨[], rfl, by simp, by simp⟩
      | succ m ih =>
        intro hm'
        obtain ⟨xs, hxl, hxo, hxc⟩ := ih (by omega)
        obtain ⟨a', ho, hcs⟩ := each m (by omega)
        refine ⟨xs ++ [a'], by simp [hxl], fun y hy => ?_, fun i p hp => ?_⟩
        · rcases List.mem_append.1 hy with hy | hy
          · exact hxo y hy
          · rw [List.mem_singleton.1 hy]; exact ho
        · by_cases hi : i < m
          · rw [List.getElem?_append_left (by omega)] at hp
            exact hxc i p hp
          · have : i = m := by
              have := (List.getElem?_eq_some_iff.1 hp).1
              simp [hxl] at this; omega
            subst this
            rw [List.getElem?_append_right (by omega), hxl] at hp
            simp at hp
            subst hp
            exact hcs
    obtain ⟨xs, hxl, hxo, hxc⟩ := pick len (Nat.le_refl _)
    refine ⟨xs, ⟨some a, cap, by rw [hxl], by omega, rfl, by unfold maxLen at hm; omega, fun _ => ⟨a, rfl, hxc⟩⟩, by omega, hxo⟩
end Go.Proofs.YtglgipggefpoiaaGreatDoor.Op
end
section
namespace Go.Proofs.YtglgipggefpoiaaGreatDoor.PAll
open Go.RowKit Go.Proofs.YtglgipggefpoiaaGreatDoorW.PrintWords Go.Proofs.YtglgipggefpoiaaGreatDoorW.PrintLast Go.Proofs.YtglgipggefpoiaaGreatDoorW.PrintMore
open Go.ChangeShapes Go.WideShapes
set_option linter.unusedVariables false
set_option linter.unusedSimpArgs false
set_option maxRecDepth 100000
theorem i64_wf {x : Int} (h : (Lit.int .i64 x).wf = true) : SF.i64r x := by
  have : -9223372036854775808 ≤ x ∧ x ≤ 9223372036854775807 := by simpa [Lit.wf, IntKind.min, IntKind.max, IntKind.signed, IntKind.bits] using h
  exact this
theorem u64_nat {x : Int} (h : (Lit.int .u64 x).wf = true) : ∃ b : Nat, x = b ∧ b < 18446744073709551616 := by
  have : 0 ≤ x ∧ x ≤ 18446744073709551615 := by simpa [Lit.wf, IntKind.min, IntKind.max, IntKind.signed, IntKind.bits] using h
  exact ⟨x.toNat, by omega, by omega⟩
theorem u16_wf {x : Int} (h : (Lit.int .u16 x).wf = true) : 0 ≤ x ∧ x < 65536 := by
  have : 0 ≤ x ∧ x ≤ 65535 := by simpa [Lit.wf, IntKind.min, IntKind.max, IntKind.signed, IntKind.bits] using h
  omega
theorem opens49 : Op.Opens k49 Tryz.prog 49 (fun e => SF.i64r e.f1 ∧ SF.i64r e.f2) := by
  refine ⟨by kernel_rfl, fun {H enc w base spare held fuel cs x} hx => ?_⟩
  obtain ⟨xs, n, _, _, hl, hlen, hf⟩ := DataW.trod_struct Tryz.underlying49 hx
  have hc3 : Tryz.prog.cellsOf 3 = 1 := by kernel_rfl
  have hc49 : Tryz.prog.cellsOf 49 = 3 := by kernel_rfl
  rw [hc49] at hl
  match cs, hl, xs, hlen with
  | [u, v, y], _, [x0, x1, x2], _ =>
    have f0 : DataW.trod enc Tryz.prog w base spare held n 3 (([u, v, y].drop 0).take (Tryz.prog.cellsOf 3)) = some x0 := hf 0 _ rfl
    have f1 : DataW.trod enc Tryz.prog w base spare held n 3 (([u, v, y].drop 1).take (Tryz.prog.cellsOf 3)) = some x1 := hf 1 _ rfl
    have f2 : DataW.trod enc Tryz.prog w base spare held n 3 (([u, v, y].drop 2).take (Tryz.prog.cellsOf 3)) = some x2 := hf 2 _ rfl
    rw [hc3] at f0 f1 f2
    obtain ⟨a, ea, _, _⟩ := DataW.trod_int Tryz.underlying3 (show DataW.trod enc Tryz.prog w base spare held n 3 [u] = some x0 from f0)
    obtain ⟨b, eb, _, wb⟩ := DataW.trod_int Tryz.underlying3 (show DataW.trod enc Tryz.prog w base spare held n 3 [v] = some x1 from f1)
    obtain ⟨c, ec, _, wc⟩ := DataW.trod_int Tryz.underlying3 (show DataW.trod enc Tryz.prog w base spare held n 3 [y] = some x2 from f2)
    simp only [List.cons.injEq, and_true] at ea eb ec
    subst ea; subst eb; subst ec
    exact ⟨⟨a, b, c⟩, k49_mk w _, i64_wf wb, i64_wf wc⟩
theorem in_open {H : Type} {enc : TypeId × Value → H} {w : World} {base : Nat} {spare : Nat → Bool} {held : Bool} {fuel : Nat} {cs : List Value} {x : DataW H × List MemPlace} (h : DataW.trod enc Tryz.prog w base spare held fuel 25 cs = some x) :
    ∃ (m g : Bool) (c : Int) (b : Nat) (A : Option Addr) (cap : Nat) (l : List S49), cs = [.bool m, .bool g, .int .i64 c, .int .u64 b, .slice A l.length cap] ∧ l.length ≤ cap ∧ Kd.C k49 w A l.length l ∧ SF.i64r c ∧ b < 18446744073709551616 ∧ ∀ e ∈ l, SF.i64r e.f1 ∧ SF.i64r e.f2 := by
  obtain ⟨xs, n, _, _, hl, hlen, hf⟩ := DataW.trod_struct Tryz.underlying25 h
  have hc3 : Tryz.prog.cellsOf 3 = 1 := by kernel_rfl
  have hc4 : Tryz.prog.cellsOf 4 = 1 := by kernel_rfl
  have hc22 : Tryz.prog.cellsOf 22 = 1 := by kernel_rfl
  have hc23 : Tryz.prog.cellsOf 23 = 1 := by kernel_rfl
  have hc25 : Tryz.prog.cellsOf 25 = 5 := by kernel_rfl
  rw [hc25] at hl
  match cs, hl, xs, hlen with
  | [u, v, y, z, q], _, [x0, x1, x2, x3, x4], _ =>
    have f0 : DataW.trod enc Tryz.prog w base spare held n 4 (([u, v, y, z, q].drop 0).take (Tryz.prog.cellsOf 4)) = some x0 := hf 0 _ rfl
    have f1 : DataW.trod enc Tryz.prog w base spare held n 4 (([u, v, y, z, q].drop 1).take (Tryz.prog.cellsOf 4)) = some x1 := hf 1 _ rfl
    have f2 : DataW.trod enc Tryz.prog w base spare held n 3 (([u, v, y, z, q].drop 2).take (Tryz.prog.cellsOf 3)) = some x2 := hf 2 _ rfl
    have f3 : DataW.trod enc Tryz.prog w base spare held n 22 (([u, v, y, z, q].drop 3).take (Tryz.prog.cellsOf 22)) = some x3 := hf 3 _ rfl
    have f4 : DataW.trod enc Tryz.prog w base spare held n 23 (([u, v, y, z, q].drop 4).take (Tryz.prog.cellsOf 23)) = some x4 := hf 4 _ rfl
    rw [hc4] at f0 f1
    rw [hc3] at f2
    rw [hc22] at f3
    rw [hc23] at f4
    obtain ⟨m, ea, _⟩ := DataW.trod_bool Tryz.underlying4 (show DataW.trod enc Tryz.prog w base spare held n 4 [u] = some x0 from f0)
    obtain ⟨g, eb, _⟩ := DataW.trod_bool Tryz.underlying4 (show DataW.trod enc Tryz.prog w base spare held n 4 [v] = some x1 from f1)
    obtain ⟨c, ec, _, wc⟩ := DataW.trod_int Tryz.underlying3 (show DataW.trod enc Tryz.prog w base spare held n 3 [y] = some x2 from f2)
    obtain ⟨d, ed, _, wd⟩ := DataW.trod_int Tryz.underlying22 (show DataW.trod enc Tryz.prog w base spare held n 22 [z] = some x3 from f3)
    simp only [List.cons.injEq, and_true] at ea eb ec ed
    subst ea; subst eb; subst ec; subst ed
    obtain ⟨l, ⟨A, cc, ez, hlc, hC⟩, _, hok⟩ := (Op.Opens.slice (K := k49) Tryz.underlying23 hc23 opens49).op (show DataW.trod enc Tryz.prog w base spare held n 23 [q] = some x4 from f4)
    simp only [List.cons.injEq, and_true] at ez
    subst ez
    obtain ⟨b, rfl, hb⟩ := u64_nat wd
    exact ⟨m, g, c, b, A, cc, l, rfl, hlc, hC, i64_wf wc, hb, hok⟩
end Go.Proofs.YtglgipggefpoiaaGreatDoor.PAll
end
section
namespace Go.Proofs.YtglgipggefpoiaaGreatDoor.SF
open Go.ChangeShapes Go.WideShapes Go.RowKit
set_option maxRecDepth 100000
set_option linter.unusedVariables false
theorem returns_shaped_and {H : Type} {enc : TypeId × Value → H} {a : Assume} {C : Checked} {os : Os} {f : FuncId} {fn : Func} {s : ChangeSpec} {conds : List PathCond} {apart fresh handsOn again : Bool} {X : World → Array Value → Prop}
    (hX : ∀ (w w' : World) (args : Array Value), w.heap = w'.heap → X w args → X w' args)
    (own : ownKnob C.prog.godebug = none) (started : os.Started) (noInit : C.prog.inits.idxOf? f = none) (hfn : C.prog.funcs[f]? = some fn)
    (witness : ∃ (w : World) (tape : Tape) (i : Input), w.os = os ∧ (w.forCall tape i).Shaped C.prog ∧ i.vars = [] ∧ Input.okWide C.prog (w.forCall tape i) .any w.heap.size f i ∧
      ((s.pre enc C.prog fn conds apart (w.forCall tape i).memory i.args ∧ X (w.forCall tape i).memory i.args) ∧ sizedMet enc C.prog fn (OpenSpec.ofChange s) apart (w.forCall tape i).memory i.args) ∧ a.holds C.prog (lone (Frame.enter C.prog f i.args .normal) [] (w.forCall tape i)))
    (contract : ∀ (W : World) (base : Nat) (args : Array Value) (ds gs : List (DataW H)) (before : List MemPlace),
      (∀ (j : Nat) t v, fn.params[j]? = some t → args[j]? = some v → Value.okWide C.prog W .any base t v) →
      DataW.Whole enc C.prog fn.params.toList s.vars apart W args.toList ds gs before →
      conds.all (PathCond.test C.prog ⟨fn.params.toList, ds, s.plain.varTypes C.prog, gs⟩) = true →
      (DataW.weightsEach C.prog (fn.params.toList ++ s.plain.varTypes C.prog) (ds ++ gs)).all (· ≤ reachBytes) = true → W.ShapedOpen C.prog → X W args →
      a.holds C.prog (lone (Frame.enter C.prog f args .normal) [] W) →
      Calls C.prog f args W fun e W' => ∃ v, e = .returned v ∧ s.post enc C.prog fn apart fresh handsOn again W args v W') :
    ReturnsInHanded a C os f .any (fun w args => (s.pre enc C.prog fn conds apart w args ∧ X w args) ∧ sizedMet enc C.prog fn (OpenSpec.ofChange s) apart w args) (s.post enc C.prog fn apart fresh handsOn again) := by
  refine returnsInHanded_of_calls own started noInit witness ?_
  intro w tape i _ hsh _ hok hpre hholds
  obtain ⟨_, _, _, fn', hfn', _, _, _, _, hval⟩ := hok
  obtain rfl : fn' = fn := Option.some.inj (hfn'.symm.trans hfn)
  obtain ⟨⟨⟨ds, gs, before, hw, hc⟩, hx⟩, hz⟩ := hpre
  have hw' := DataW.Whole.of_heap (w' := w.forCall tape i) (by rfl) hw
  refine (contract (w.forCall tape i) w.heap.size i.args ds gs before hval hw' hc (hz.weights hw) hsh (hX _ _ _ (by rfl) hx) hholds).mono fun e W' ⟨v, he, hp⟩ => ?_
  subst he
  exact ChangeSpec.post_blind hp
theorem pow_tab {W : World} (h : Lib.VarReads Tryz.prog W "internal/strconv.uint64pow10" Rows.laid_internal_strconv_uint64pow10) : Lib.TabIs Tryz.prog W "internal/strconv.uint64pow10" .u64 Lib.pow10Tab := by
  obtain ⟨g, t, cs, fuel, p, hg, ht, hv, hd⟩ := h
  obtain rfl := Option.some.inj ((show Tryz.prog.globalNamed "internal/strconv.uint64pow10" = some 1 by kernel_rfl).symm.trans hg)
  obtain rfl := Option.some.inj ((show (Tryz.prog.globals[1]?).map (·.type) = some 163 by kernel_rfl).symm.trans ht)
  have e : (Rows.laid_internal_strconv_uint64pow10 : DataW Unit) = Lib.tabData .u64 Lib.pow10Tab := rfl
  rw [e] at hd
  have := Lib.cells_of_tab Tryz.underlying163 (e := 22) (n := 20) (k := .u64) Tryz.underlying22 (by kernel_rfl) (by kernel_rfl) hd
  unfold Lib.TabIs
  rw [hv, ← this]
theorem err_var {W : World} {n nm : String} {d : DataW Unit} (h : Lib.VarReads Tryz.prog W n (.iface nm d)) {g : Nat} (hg0 : Tryz.prog.globalNamed n = some g) (ht0 : (Tryz.prog.globals[g]?).map (·.type) = some 70) : ∃ tp p, W.var? Tryz.prog n = some #[.iface tp p] := by
  obtain ⟨g, t, cs, fuel, p, hg, ht, hv, hd⟩ := h
  obtain rfl := Option.some.inj (hg0.symm.trans hg)
  obtain rfl := Option.some.inj (ht0.symm.trans ht)
  obtain ⟨f1, u, v, hc, _, _⟩ := iface_of_trod Tryz.underlying70 hd
  refine ⟨u, v, ?_⟩
  rw [hv]
  congr 1
  apply Array.ext'
  exact hc
theorem Lw_of {W : World} (h : laidMetH Tryz.prog Rows.scriptPutsRow.laid W) (hs : W.ShapedOpen Tryz.prog) : Lw W := by
  rw [MakeChecks.laidMetH_plain _ _ _ (by kernel_rfl)] at h
  refine ⟨pow_tab (Lib.laidMet.reads h (.tail _ (.tail _ (.head _)))), err_var (Lib.laidMet.reads h (.tail _ (.tail _ (.tail _ (.tail _ (.tail _ (.tail _ (.head _)))))))) (g := 2) (by kernel_rfl) (by kernel_rfl), err_var (Lib.laidMet.reads h (.tail _ (.tail _ (.tail _ (.tail _ (.tail _ (.head _))))))) (g := 3) (by kernel_rfl) (by kernel_rfl), ?_⟩
  exact cell_of_shapedOpen_int (g := 4) (t := 3) (zero := #[.int .i64 0]) hs (of_decide_eq_true (by kernel_rfl)) (by kernel_rfl) rfl (by kernel_rfl) (by kernel_rfl) Tryz.underlying3
end Go.Proofs.YtglgipggefpoiaaGreatDoor.SF
end
section
namespace Go.Proofs.YtglgipggefpoiaaGreatDoor.scriptParses
open Go.ChangeShapes Go.WideShapes Go.ChangeAt Go.RowKit Go.Proofs.YtglgipggefpoiaaGreatDoorW.PrintWords
open Go.ChangeMaps (open_string shut_string)
set_option linter.unusedVariables false
theorem own : ownKnob Tryz.prog.godebug = none := by kernel_rfl
theorem laidOut : laidOutB Tryz.prog = true := by kernel_rfl
set_option maxHeartbeats 1000000 in
set_option maxRecDepth 100000 in
theorem lifted (os : Os) (started : os.Started) (H : Type) (enc : TypeId × Value → H) :
    ReturnsInHanded {} Tryz.checked os 4 .any (fun w args => (Rows.scriptParsesSpec.pre enc Tryz.prog Tryz.f4 [] false w args ∧ laidMetH Tryz.prog Rows.scriptParsesRow.laid w) ∧ sizedMet enc Tryz.prog Tryz.f4 (OpenSpec.ofChange Rows.scriptParsesSpec) false w args) (Rows.scriptParsesSpec.post enc Tryz.prog Tryz.f4 false true false false) := by
  refine SF.returns_shaped_and (C := Tryz.checked) (X := fun w _ => laidMetH Tryz.prog Rows.scriptParsesRow.laid w) (fun _ _ _ hh h => h.of_heap hh) own started (by kernel_rfl) Tryz.func4
    (ChangeSpec.witness_shaped (enc := enc) (C := Tryz.checked) (os := os) (X := fun w _ => laidMetH Tryz.prog Rows.scriptParsesRow.laid w) false (World.laidAll Tryz.prog os Rows.scriptParsesRow.laid) #[.agg #[.bool false, .bool false, .int .i64 0, .int .u64 0, .slice none 0 0], .slice none 0 0, .slice none 0 0, .string ⟨#[]⟩] 8 (World.laidAll_os _ _ _)
      (World.shaped_of_ZipB (by kernel_rfl) (by kernel_rfl)) (by kernel_rfl) (by kernel_rfl) (by kernel_rfl)
      (by rw [MakeChecks.laidMetH_plain _ _ _ (by kernel_rfl)]; exact laidMet_laidAll _ (by kernel_rfl) (by kernel_rfl))) ?_
  intro W base args ds gs before hval0 hW _ hsz0 hsh hL _
  have hhalf := SF.Lw_of hL hsh
  have hsz : (DataW.weightsEach Tryz.prog (Tryz.f4.params.toList ++ Rows.scriptParsesSpec.plain.varTypes Tryz.prog) (ds ++ gs)).all (· ≤ reachBytes) = true := hsz0
  have hval : ∀ (j : Nat) t v, Tryz.f4.params[j]? = some t → args[j]? = some v → Value.okWide Tryz.prog W .any base t v := hval0
  have hW' := hW
  obtain ⟨p, q, hA0, hV, rfl, hfz, hnd⟩ := hW
  have hA : DataW.TrodAll enc Tryz.prog W 0 (fun _ => true) true Tryz.f4.params.toList args.toList ds p := hA0
  rw [Tryz.params4] at hA hval hsz
  obtain ⟨v0, vs0, d0, ds0, p0, q0, hargs, rfl, rfl, h0, r0⟩ := trodAll_cons hA
  obtain ⟨v1, vs1, d1, ds1, p1, q1, rfl, rfl, rfl, h1, r1⟩ := trodAll_cons r0
  obtain ⟨v2, vs2, d2, ds2, p2, q2, rfl, rfl, rfl, h2, r2⟩ := trodAll_cons r1
  obtain ⟨v3, vs3, d3, ds3, p3, q3, rfl, rfl, rfl, h3, r3⟩ := trodAll_cons r2
  obtain ⟨rfl, rfl, rfl⟩ := trodAll_nil r3
  obtain rfl : args = #[v0, v1, v2, v3] := by cases args; simp_all
  obtain ⟨rfl, rfl⟩ := trodVars_none hV
  obtain ⟨cs0, rfl, hz0⟩ := okWide_struct Tryz.underlying25 (hval 0 25 v0 rfl rfl)
  have k0 := h0
  have lt0 : ∀ x ∈ p0, x.block < W.heap.size := by obtain ⟨m, hm⟩ := k0; exact DataW.trod_lt m _ _ _ hm
  obtain ⟨fu0, hf0⟩ := h0
  obtain ⟨m0, g0, cc0, bb0, A0, c0, l0, e0, hc0, hr0, hw0, hb0, he0⟩ := PAll.in_open hf0
  obtain rfl : cs0 = #[.bool m0, .bool g0, .int .i64 cc0, .int .u64 bb0, .slice A0 l0.length c0] := by simpa [Value.cells, ← Array.toList_inj] using e0
  obtain ⟨A1, len1, c1, rfl⟩ := okWide_slice Tryz.underlying34 (hval 1 34 v1 rfl rfl)
  have k1 := h1
  have lt1 : ∀ x ∈ p1, x.block < W.heap.size := by obtain ⟨m, hm⟩ := k1; exact DataW.trod_lt m _ _ _ hm
  obtain ⟨fu1, hf1⟩ := h1
  obtain ⟨l1, ⟨B1, b1, e1, hc1, hr1⟩, ok1⟩ := (Op.Opens.slice (K := Kd.int .u16) Tryz.underlying34 (by kernel_rfl) (Op.Opens.int .u16 Tryz.underlying36 (by kernel_rfl))).op hf1
  simp [Value.cells] at e1
  obtain ⟨rfl, rfl, rfl⟩ := e1
  obtain ⟨A2, len2, c2, rfl⟩ := okWide_slice Tryz.underlying35 (hval 2 35 v2 rfl rfl)
  have k2 := h2
  have lt2 : ∀ x ∈ p2, x.block < W.heap.size := by obtain ⟨m, hm⟩ := k2; exact DataW.trod_lt m _ _ _ hm
  obtain ⟨fu2, hf2⟩ := h2
  obtain ⟨l2, ⟨B2, b2, e2, hc2, hr2⟩, ok2⟩ := (Op.Opens.slice (K := Kd.int .u8) Tryz.underlying35 (by kernel_rfl) (Op.Opens.int .u8 Tryz.underlying5 (by kernel_rfl))).op hf2
  simp [Value.cells] at e2
  obtain ⟨rfl, rfl, rfl⟩ := e2
  obtain ⟨a3, rfl, rfl, rfl, w3⟩ := open_string Tryz.underlying9 (hval 3 9 v3 rfl rfl) h3
  clear hA0 hval0 hsz0
  obtain ⟨k, hk⟩ := (⟨0, trivial⟩ : ∃ k : Nat, True)
  refine (SF.parses_law m0 g0 cc0 bb0 (A0, c0) l0 W ⟨hc0, hr0⟩ hw0 hb0 he0 hhalf (A1, c1) (A2, c2) l1 l2 a3 ⟨hc1, hr1⟩ (fun a ha => PAll.u16_wf (ok1.2 a ha)) ⟨hc2, hr2⟩).mono fun e W' ⟨he, bel⟩ => ?_
  subst he
  exact ⟨_, rfl, _, _, _, [], _, [], hW', trodAll_mk1 (shut_bool Tryz.underlying4 _), (trodAll_cons_mk (Below.trod laidOut (by kernel_rfl) (of_decide_eq_true (by kernel_rfl)) k0 bel lt0) (trodAll_cons_mk (Below.trod laidOut (by kernel_rfl) (of_decide_eq_true (by kernel_rfl)) k1 bel lt1) (trodAll_cons_mk (Below.trod laidOut (by kernel_rfl) (of_decide_eq_true (by kernel_rfl)) k2 bel lt2) (trodAll_cons_mk (shut_string Tryz.underlying9 w3) trodAll_mk0)))), rfl, bel.frame _, fun h => by cases h⟩
theorem over : Rows.scriptParsesRow.holds Tryz.pinned (OpenSpec.ofChange Rows.scriptParsesSpec) :=
  OpenClaim.holds_of_wide 4 Tryz.f4 rfl rfl rfl rfl rfl rfl rfl ⟨rfl, rfl, rfl, rfl, rfl⟩ rfl rfl rfl rfl rfl (by kernel_rfl) Tryz.func4 (by kernel_rfl)
    (of_decide_eq_true (by kernel_rfl)) (by unfold Func.isWrapper; first | (rw [if_pos (by decide +kernel)]; kernel_rfl) | (rw [if_neg (by decide +kernel)]; exact ⟨rfl, rfl⟩))
    (fun os started H enc _ => lifted os started H enc)
theorem proved : Rows.ScriptParsesSaid := over
theorem row_tie : Rows.scriptParsesRow.laidByTextAt .later Tryz.pinned [.data, .data, .data, .data, .data, .sentinel, .sentinel, .pinned] true := scriptParses_row_tie
theorem card : Rows.ScriptParsesCardSaid :=
  Claim7.holds_tied_plain_at .later [] [.data, .data, .data, .data, .data, .sentinel, .sentinel, .pinned] true (true, "e076c508fcb96590fc3f15b846c8372e96745594347af2c941e57ce05269dd9f") true
    proved (fun _ h => by cases h) (by kernel_rfl) (fun _ h => by cases h) row_tie rfl ⟨rfl, rfl⟩ (by kernel_rfl) rfl
    (fun f fn hf hfn => by
      obtain rfl : f = 4 := Option.some.inj ((show Tryz.prog.funcNamed "paternoster/paternosterlaw24.ScriptParses" = some 4 by kernel_rfl).symm.trans hf) |>.symm
      obtain rfl : fn = Tryz.f4 := (Option.some.inj (Tryz.func4.symm.trans hfn)).symm
      exact ⟨by kernel_rfl, fun j t ht => by
        rw [Tryz.params4] at ht
        have ht' : t ∈ #[25, 34, 35, 9] := Array.mem_of_getElem? ht
        simp only [List.mem_toArray, List.mem_cons, List.not_mem_nil, or_false] at ht'
        rcases ht' with rfl | rfl | rfl | rfl
        · exact (show Tryz.prog.wantsStandIn 25 = false by kernel_rfl)
        · exact (show Tryz.prog.wantsStandIn 34 = false by kernel_rfl)
        · exact (show Tryz.prog.wantsStandIn 35 = false by kernel_rfl)
        · exact (show Tryz.prog.wantsStandIn 9 = false by kernel_rfl)⟩)
    (by kernel_rfl)
#print axioms card
end Go.Proofs.YtglgipggefpoiaaGreatDoor.scriptParses
namespace Go.Proofs.YtglgipggefpoiaaGreatDoor
theorem scriptParses_holds : Rows.ScriptParsesCardSaid := scriptParses.card
end Go.Proofs.YtglgipggefpoiaaGreatDoor
end
