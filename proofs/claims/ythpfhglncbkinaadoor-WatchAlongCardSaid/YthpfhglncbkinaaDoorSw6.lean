/- Walks (no statement stands here). -/
import Derived.Test.YthpfhglncbkinaaDoorSw5
import Derived.Test.YthpfhglncbkinaaDoorPAllx0
import Derived.Test.YthpfhglncbkinaaDoorPAllx16
import Derived.Test.YthpfhglncbkinaaDoorSz
import Derived.Test.YthpfhglncbkinaaDoorWMore
import Derived.Test.YthpfhglncbkinaaDoorWLast
namespace Go.Proofs.YthpfhglncbkinaaDoor.SF
open Go.RowKit Go.Sx Go.Proofs.YthpfhglncbkinaaDoorW.PrintWords Go.Proofs.YthpfhglncbkinaaDoorW.PrintLast Go.Proofs.YthpfhglncbkinaaDoorW.PrintMore
set_option linter.unusedVariables false
set_option linter.unusedSimpArgs false
set_option maxRecDepth 100000
def folB (any : Bool) (last now : List Int) : Bool := if any then followsB last now else fitsB now
def isBad (K : Kn) (any : Bool) (last : List Int) (x : PAll.S40) : Bool := overB x K || !folB any last x.f3
def badN (K : Kn) (any : Bool) (last : List Int) (x : PAll.S40) (bad : Int) : Int := if isBad K any last x then IntKind.i64.wrap (bad + 1) else bad
theorem clone_calls {A : Option Addr} {c : Nat} {l : List Int} {w0 w : World} {hp : List Sx.Item} (hw : HeapOK w0 hp w) (hr : Kd.C (Kd.int .i64) w A l.length l) (hc : l.length ≤ c) (hl : l.length < 17592186044416) :
    Calls Tryd.prog 30 #[.slice A l.length c] w fun e w' => ∃ i : Option Addr × Nat, l.length ≤ i.2 ∧ e = .returned (.slice i.1 l.length i.2) ∧ HeapOK w0 (.own 0 3 1 (.slice i.1 l.length i.2) l.length (nums .i64 l) :: hp) w' := by
  refine (PAll.slices_Clone_int_int.calls A c l l w hr hc (by unfold PAll.slices_Clone_int_int.f; simp only [Option.bind_some, List.nil_append, List.length_nil, Nat.zero_add]; rw [if_pos hl])).mono ?_
  rintro e w' ⟨v, rfl, hR, hb⟩
  obtain ⟨A2, c2, rfl, hc2, _⟩ := Kd.R_reads hR
  exact ⟨(A2, c2), hc2, rfl, hw.newOwn hb (own_of_R hR)⟩
theorem at_get (hp : List Sx.Item) (i : Nat) (x : Sx.Item) (h : hp[i]? = some x) : hp[i]? = some x := h

theorem aload_calls (w0 : World) (hp : List Sx.Item) (i b off : Nat) (cs : List Value) (T : TypeId) (n : Int) (hi : hp[i]? = some (.blk b cs T)) (hcell : cs[off]? = some (.int .i64 n)) (w : World) (hw : HeapOK w0 hp w) : Calls Tryd.prog 31 #[.pointer (some ⟨b, off, none⟩)] w fun e w' => e = .returned (.int .i64 n) ∧ HeapOK w0 hp w' := by
  refine enter (w0 := w0) (hp := hp) (env := [(0, .pointer (some ⟨b, off, none⟩))]) Tryd.func31 rfl 7 rfl (by simp) rfl hw ?_
  refine wc_seq ?_
  refine wc_region ?_
  refine wl_q (q_assign rfl rfl) rfl rfl (by decide) ?_
  refine wl_nil ?_
  refine fq_then ?_
  refine wc_seq ?_
  refine wc_region ?_
  refine wl_q (q_move rfl rfl) rfl rfl (by decide) ?_
  refine wl_q (q_nilCheck rfl rfl) rfl rfl (by decide) ?_
  refine wl_q (q_fa (o1 := off) rfl rfl Fo57_2 rfl) rfl rfl (by decide) ?_
  refine wl_q (q_atomLoad rfl rfl Tryd.func41 (by kernel_rfl) (by kernel_rfl) (by kernel_rfl) (by kernel_rfl) (reads1 hi hcell)) rfl rfl (by decide) ?_
  refine wl_q (q_assign rfl rfl) rfl rfl (by decide) ?_
  refine wl_nil ?_
  refine fq_then ?_
  refine wc_ret ?_
  refine fq_ret1 rfl rfl (fun w1 H => ?_)
  exact ⟨rfl, H⟩

theorem aadd_calls (w0 : World) (hp : List Sx.Item) (i b off : Nat) (cs : List Value) (T : TypeId) (n m : Int) (hi : hp[i]? = some (.blk b cs T)) (hcell : cs[off]? = some (.int .i64 n)) (w : World) (hw : HeapOK w0 hp w) : Calls Tryd.prog 29 #[.pointer (some ⟨b, off, none⟩), .int .i64 m] w fun e w' => e = .returned (.int .i64 (IntKind.i64.wrap (n + m))) ∧ HeapOK w0 (hp.set i (.blk b (cs.set off (.int .i64 (IntKind.i64.wrap (n + m)))) T)) w' := by
  refine enter (w0 := w0) (hp := hp) (env := [(0, .pointer (some ⟨b, off, none⟩)), (1, .int .i64 m)]) Tryd.func29 rfl 10 rfl (by simp) rfl hw ?_
  refine wc_seq ?_
  refine wc_region ?_
  refine wl_q (q_assign rfl rfl) rfl rfl (by decide) ?_
  refine wl_nil ?_
  refine fq_then ?_
  refine wc_seq ?_
  refine wc_region ?_
  refine wl_q (q_move rfl rfl) rfl rfl (by decide) ?_
  refine wl_q (q_nilCheck rfl rfl) rfl rfl (by decide) ?_
  refine wl_q (q_fa (o1 := off) rfl rfl Fo57_2 rfl) rfl rfl (by decide) ?_
  refine wl_q (q_move rfl rfl) rfl rfl (by decide) ?_
  refine wl_atomAdd rfl rfl rfl (by decide) rfl rfl Tryd.func40 (by kernel_rfl) (by kernel_rfl) (by kernel_rfl) (by kernel_rfl) hi hcell rfl rfl ?_
  refine wl_q (q_assign rfl rfl) rfl rfl (by decide) ?_
  refine wl_nil ?_
  refine fq_then ?_
  refine wc_ret ?_
  refine fq_ret1 rfl rfl (fun w1 H => ?_)
  exact ⟨rfl, H⟩

theorem bad_calls (w0 : World) (hp : List Sx.Item) (i bw : Nat) (x0 x1 x2 : Value) (bad : Int) (hi : hp[i]? = some (.blk bw [x0, x1, x2, .int .i64 bad] 59)) (w : World) (hw : HeapOK w0 hp w) : Calls Tryd.prog 17 #[.pointer (some ⟨bw, 0, none⟩)] w fun e w' => e = .returned (.int .i64 bad) ∧ HeapOK w0 hp w' := by
  refine enter (w0 := w0) (hp := hp) (env := [(0, .pointer (some ⟨bw, 0, none⟩))]) Tryd.func17 rfl 9 rfl (by simp) rfl hw ?_
  refine wc_seq ?_
  refine wc_region ?_
  refine wl_q (q_assign rfl rfl) rfl rfl (by decide) ?_
  refine wl_nil ?_
  refine fq_then ?_
  refine wc_seq ?_
  refine wc_seq ?_
  refine wc_region ?_
  refine wl_q (q_move rfl rfl) rfl rfl (by decide) ?_
  refine wl_q (q_eqlP rfl rfl rfl Tryd.underlying34) rfl rfl (by decide) ?_
  refine wl_nil ?_
  refine fq_then ?_
  refine wc_false rfl ?_
  refine wc_skip ?_
  refine fq_then ?_
  refine wc_seq ?_
  refine wc_region ?_
  refine wl_q (q_move rfl rfl) rfl rfl (by decide) ?_
  refine wl_q (q_nilCheck rfl rfl) rfl rfl (by decide) ?_
  refine wl_q (q_fa (o1 := 3) rfl rfl Fo59_3 rfl) rfl rfl (by decide) ?_
  refine wl_call (ι := Unit) (fun _ => .int .i64 bad) (fun _ => hp) (fun _ => True) rfl rfl rfl (by decide) En31 rfl (fun w1 hw1 => (aload_calls w0 hp i bw 3 _ 59 bad hi rfl w1 hw1).mono (fun e w' h => ⟨(), trivial, h.1, h.2⟩)) (fun _ _ => ?_)
  refine wl_q (q_assign rfl rfl) rfl rfl (by decide) ?_
  refine wl_nil ?_
  refine fq_then ?_
  refine wc_ret ?_
  refine fq_ret1 rfl rfl (fun w1 H => ?_)
  exact ⟨rfl, H⟩

theorem badNil_calls (w : World) : Calls Tryd.prog 17 #[.pointer none] w fun e w' => e = .returned (.int .i64 0) ∧ Below w.heap.size w w' := by
  refine enter (w0 := w) (hp := [old w]) (env := [(0, .pointer none)]) Tryd.func17 rfl 9 rfl (by simp) rfl (HeapOK.start _) ?_
  refine wc_seq ?_
  refine wc_region ?_
  refine wl_q (q_assign rfl rfl) rfl rfl (by decide) ?_
  refine wl_nil ?_
  refine fq_then ?_
  refine wc_seq ?_
  refine wc_seq ?_
  refine wc_region ?_
  refine wl_q (q_move rfl rfl) rfl rfl (by decide) ?_
  refine wl_q (q_eqlP rfl rfl rfl Tryd.underlying34) rfl rfl (by decide) ?_
  refine wl_nil ?_
  refine fq_then ?_
  refine wc_true rfl ?_
  refine wc_seq ?_
  refine wc_region ?_
  refine wl_q (q_assign rfl rfl) rfl rfl (by decide) ?_
  refine wl_nil ?_
  refine fq_then ?_
  refine wc_ret ?_
  refine fq_then_ret ?_
  refine fq_ret1 rfl rfl (fun w1 H => ?_)
  exact ⟨rfl, H.toBelow (by simp)⟩

theorem tellNil_calls (x : List Value) (w : World) : Calls Tryd.prog 16 #[.pointer none, .agg x.toArray] w fun e w' => e = .returned (.bool false) ∧ Below w.heap.size w w' := by
  refine enter (w0 := w) (hp := [old w]) (env := [(0, .pointer none), (1, .agg x.toArray)]) Tryd.func16 rfl 50 rfl (by simp) rfl (HeapOK.start _) ?_
  refine wc_seq ?_
  refine wc_region ?_
  refine wl_box rfl rfl rfl (by decide) rfl rfl (fun b1 => ?_)
  refine wl_q (q_assign rfl rfl) rfl rfl (by decide) ?_
  refine wl_nil ?_
  refine fq_then ?_
  refine wc_seq ?_
  refine wc_seq ?_
  refine wc_region ?_
  refine wl_q (q_move rfl rfl) rfl rfl (by decide) ?_
  refine wl_q (q_eqlP rfl rfl rfl Tryd.underlying34) rfl rfl (by decide) ?_
  refine wl_nil ?_
  refine fq_then ?_
  refine wc_true rfl ?_
  refine wc_seq ?_
  refine wc_region ?_
  refine wl_q (q_assign rfl rfl) rfl rfl (by decide) ?_
  refine wl_nil ?_
  refine fq_then ?_
  refine wc_ret ?_
  refine fq_then_ret ?_
  refine fq_ret1 rfl rfl (fun w1 H => ?_)
  exact ⟨rfl, H.toBelow (by simp)⟩

theorem new_calls (w0 : World) (hp : List Sx.Item) (lag : Int) (w : World) (hw : HeapOK w0 hp w) : Calls Tryd.prog 15 #[.int .i64 lag] w fun e w' => ∃ b : Nat × Nat, True ∧ e = .returned (.pointer (some ⟨b.1, 0, none⟩)) ∧ HeapOK w0 (.blk b.1 [.func (.func 35) #[] #[.pointer (some ⟨b.2, 0, none⟩)], .slice none 0 0, .bool false, .int .i64 0] 59 :: .blk b.2 (kn0 lag).cells 66 :: hp) w' := by
  refine enter (w0 := w0) (hp := hp) (env := [(0, .int .i64 lag)]) Tryd.func15 rfl 7 rfl (by simp) rfl hw ?_
  refine wc_seq ?_
  refine wc_region ?_
  refine wl_q (q_assign rfl rfl) rfl rfl (by decide) ?_
  refine wl_nil ?_
  refine fq_then ?_
  refine wc_seq ?_
  refine wc_region ?_
  refine wl_q (q_move rfl rfl) rfl rfl (by decide) ?_
  refine wl_call (ι := Nat) (fun b => .func (.func 35) #[] #[.pointer (some ⟨b, 0, none⟩)]) (fun b => .blk b (kn0 lag).cells 66 :: hp) (fun _ => True) rfl rfl rfl (by decide) En22 rfl (fun w1 hw1 => over_calls w0 hp lag w1 hw1) (fun bk _ => ?_)
  refine wl_q (q_build rfl rfl (built_of Zr59 Pl59 (by simp only [fillL, List.map_cons, List.map_nil, Value.cells, List.getElem?_cons_zero, List.getElem?_cons_succ, List.length_cons, List.length_nil, Nat.reduceAdd, Nat.reduceLeDiff, Nat.le_refl, and_self, and_true, true_and, if_true, Nat.zero_add, spl, List.take_succ_cons, List.take_zero, List.take_nil, List.drop_succ_cons, List.drop_zero, List.drop_nil, List.nil_append, List.cons_append, List.append_nil]; rfl))) rfl rfl (by decide) ?_
  refine wl_box rfl rfl rfl (by decide) rfl rfl (fun b1 => ?_)
  refine wl_q (q_assign rfl rfl) rfl rfl (by decide) ?_
  refine wl_nil ?_
  refine fq_then ?_
  refine wc_ret ?_
  refine fq_ret1 rfl rfl (fun w1 H => ?_)
  exact ⟨(b1, bk), trivial, rfl, H⟩

end Go.Proofs.YthpfhglncbkinaaDoor.SF
