/- ScriptPuts: for every input the law returns true, the variables as they are laid. No condition. -/
import Derived.Test.YtglgipggefpoiaaGreatDoorCSPuts10
import Derived.Test.YtglgipggefpoiaaGreatDoorCSPuts12
import Derived.Test.YtglgipggefpoiaaGreatDoorCSPuts13
import Derived.Test.YtglgipggefpoiaaGreatDoorCSPuts11
import Derived.Test.YtglgipggefpoiaaGreatDoorCSPuts8
import Derived.Laws.IdiomStrings
import Derived.Laws.MakeOwn
import Derived.Test.YtglgipggefpoiaaGreatDoorCSPuts6
import Derived.Test.YtglgipggefpoiaaGreatDoorCSPuts7
import Derived.SizedLaws
import Derived.ChangeArms
import Derived.DataElems
import Derived.DataReads
import Derived.ProofKit
import Derived.OpenShut
import Derived.ChangeSame
import Derived.Test.YtglgipggefpoiaaGreatDoorRows
import Derived.HandedShaped
import Derived.Lib.LaidU8
import Derived.Lib.LaidTab
import Derived.Lay
import Derived.MakeChecks
import Derived.Shelf.Vars
import Derived.Test.YtglgipggefpoiaaGreatDoorTie
import Derived.Test.YtglgipggefpoiaaGreatDoorCards
import Derived.SevenTiedAt
import Derived.WalkKit
import Derived.ShutString
import Derived.ChangeOld
import Derived.Below
section
namespace Go.Proofs.YtglgipggefpoiaaGreatDoor.PAll
open Go.RowKit Go.Proofs.YtglgipggefpoiaaGreatDoorW.PrintWords Go.Proofs.YtglgipggefpoiaaGreatDoorW.PrintLast Go.Proofs.YtglgipggefpoiaaGreatDoorW.PrintMore
attribute [local go_sem] max2_int min2_int max_two min_two max_three min_three max_four min_four
set_option linter.unusedVariables false
set_option linter.unusedSimpArgs false
theorem eqA45 (d : Nat) (w : World) (x0 y0 : Int) (x1 y1 : Int) (x2 y2 : Int) :
    (Op.equalIn (d + 2) 45 (.agg #[.int .i64 x0, .int .i64 x1, .int .i64 x2]) (.agg #[.int .i64 y0, .int .i64 y1, .int .i64 y2])).run Tryz.prog w = .ok (x0 == y0 && (x1 == y1 && (x2 == y2))) w := by
  refine eqA_of Tryz.underlying45 (by kernel_rfl) ?_
  refine eqf_cons (by rfl) (by go_simp; rfl) (by go_simp; rfl) (by go_simp) ?_
  refine eqf_cons (by rfl) (by go_simp; rfl) (by go_simp; rfl) (by go_simp) ?_
  exact eqf_last (by rfl) (by go_simp; rfl) (by go_simp; rfl) (by go_simp)
end Go.Proofs.YtglgipggefpoiaaGreatDoor.PAll
end
section
namespace Go.Proofs.YtglgipggefpoiaaGreatDoor.SF
open Go.RowKit Go.Sx Go.Proofs.YtglgipggefpoiaaGreatDoor.PAll Go.Proofs.YtglgipggefpoiaaGreatDoorW.PrintWords Go.Proofs.YtglgipggefpoiaaGreatDoorW.PrintLast Go.Proofs.YtglgipggefpoiaaGreatDoorW.PrintMore
set_option linter.unusedVariables false
set_option linter.unusedSimpArgs false
set_option maxRecDepth 100000
def c45 (e : S45) : List Value := [.int .i64 e.f0, .int .i64 e.f1, .int .i64 e.f2]
def RowQ (w : World) (q : Gh) (l : List S45) : Prop := l.length ≤ q.2 ∧ Kd.C k45 w q.1 l.length l
theorem RowQ.below {w w' : World} {q : Gh} {l : List S45} (h : RowQ w q l) (hb : Below w.heap.size w w') : RowQ w' q l := ⟨h.1, Kd.C_below h.2 hb⟩
theorem c45_at : ∀ {L : List S45} {j i : Nat} {e : S45} {u : Value}, L[j]? = some e → (c45 e)[i]? = some u → (L.flatMap c45)[j * 3 + i]? = some u
  | [], j, i, e, u, h, _ => by simp at h
  | x :: L, 0, i, e, u, h, hu => by
    cases h
    have hi : i < 3 := (List.getElem?_eq_some_iff.1 hu).1
    rw [List.flatMap_cons, Nat.zero_mul, Nat.zero_add, List.getElem?_append_left (by simpa [c45] using hi)]
    exact hu
  | x :: L, j + 1, i, e, u, h, hu => by
    have := c45_at (L := L) (j := j) (by simpa using h) hu
    rw [List.flatMap_cons, List.getElem?_append_right (by simp [c45]; omega)]
    rw [show (j + 1) * 3 + i - (c45 x).length = j * 3 + i by simp [c45]; omega]
    exact this
theorem rowQ_of {w : World} {base : Nat} {A : Option Addr} {n c : Nat} {L : List S45} (h : w.ownsRow base 45 3 (.slice A n c) n (L.flatMap c45)) (hn : n = L.length) (hb : L.length ≤ 1000000) : RowQ w (A, c) L := by
  subst hn
  rcases h.2 with ⟨e, e0⟩ | ⟨g, cap, cur, e, hg, hh, hle, hm, hs, ht⟩
  · have : L = [] := List.eq_nil_of_length_eq_zero e0
    subst this
    exact ⟨Nat.zero_le _, rfl, by decide, fun h => absurd h (by decide)⟩
  · cases e
    refine ⟨hle, rfl, by omega, fun _ => ⟨_, rfl, fun j x hx => ⟨c45 x, rfl, k45_mk w x, fun i u hu => ?_⟩⟩⟩
    have h1 := c45_at hx hu
    rw [← ht, List.getElem?_take] at h1
    split at h1
    · show w.cell? ((⟨g, 0, none⟩ : Addr).add (j * 3 + i)) = some u
      rw [Addr.add_lit, Nat.zero_add, cell_of_row w g _ cur 45 (0, 0) hh]; simpa using h1
    · cases h1
theorem wrap_nat {n : Nat} (h : n + 1 < 9223372036854775808) : IntKind.i64.wrap ((n : Int) + 1) = ((n + 1 : Nat) : Int) := by
  simp only [IntKind.wrap, IntKind.signed, IntKind.bits]; simp; omega
theorem take45 {l : List S49} {j : Nat} {p : S49} (h : l[j]? = some p) : ((l.take (j + 1)).map to45).flatMap c45 = ((l.take j).map to45).flatMap c45 ++ [.int .i64 p.f0, .int .i64 p.f1, .int .i64 p.f2] := by
  rw [List.take_add_one, h]
  simp [c45, to45]
theorem of_calls (m g : Bool) (c : Int) (b : Nat) (q : Gh) (l : List S49) (w : World) (hr : RowE w q l) (hl : l.length ≤ 100000) : Calls Tryz.prog 10 #[.agg #[.bool m, .bool g, .int .i64 c, .int .u64 b, .slice q.1 l.length q.2]] w fun e w' => ∃ i : Gh, e = .returned (.agg #[.bool m, .bool g, .int .i64 c, .int .u64 b, .slice i.1 l.length i.2]) ∧ HeapOK w [.own 0 45 3 (.slice i.1 l.length i.2) l.length ((l.map to45).flatMap c45), old w] w' := by
  refine enter (w0 := w) (hp := [old w]) (env := [(0, .agg #[.bool m, .bool g, .int .i64 c, .int .u64 b, .slice q.1 l.length q.2])]) Tryz.func10 rfl 46 rfl (by simp) rfl (HeapOK.start _) ?_
  refine wc_seq ?_
  refine wc_region ?_
  refine wl_box rfl rfl rfl (by decide) rfl rfl (fun b1 => ?_)
  refine wl_alloc rfl rfl rfl (by decide) Zr31 (fun b2 => ?_)
  refine wl_nil ?_
  refine fq_then ?_
  refine wc_seq ?_
  refine wc_region ?_
  refine wl_q (q_fa (o1 := 0) rfl rfl Fo25_0 rfl) rfl rfl (by decide) ?_
  refine wl_q (q_load rfl rfl Mn4 (reads1 (i := 1) rfl rfl)) rfl rfl (by decide) ?_
  refine wl_q (q_fa (o1 := 1) rfl rfl Fo25_1 rfl) rfl rfl (by decide) ?_
  refine wl_q (q_load rfl rfl Mn4 (reads1 (i := 1) rfl rfl)) rfl rfl (by decide) ?_
  refine wl_q (q_fa (o1 := 2) rfl rfl Fo25_2 rfl) rfl rfl (by decide) ?_
  refine wl_q (q_load rfl rfl Mn3 (reads1 (i := 1) rfl rfl)) rfl rfl (by decide) ?_
  refine wl_q (q_fa (o1 := 3) rfl rfl Fo25_3 rfl) rfl rfl (by decide) ?_
  refine wl_q (q_load rfl rfl Mn22 (reads1 (i := 1) rfl rfl)) rfl rfl (by decide) ?_
  refine wl_q (q_build rfl rfl (built_of Zr31 Pl31 (by simp only [fillL, List.map_cons, List.map_nil, Value.cells, List.getElem?_cons_zero, List.getElem?_cons_succ, List.length_cons, List.length_nil, Nat.reduceAdd, Nat.reduceLeDiff, Nat.le_refl, and_self, and_true, true_and, if_true, Nat.zero_add, spl, List.take_succ_cons, List.take_zero, List.take_nil, List.drop_succ_cons, List.drop_zero, List.drop_nil, List.nil_append, List.cons_append, List.append_nil] <;> rfl))) rfl rfl (by decide) ?_
  refine wl_alloc rfl rfl rfl (by decide) Zr31 (fun b3 => ?_)
  refine wl_store (i := 0) rfl rfl rfl rfl rfl rfl Sz31 rfl rfl (by simp) (by simp [Value.oneCell', Sx.spl]) (by first | (simp only [List.take_succ_cons, List.take_zero, List.take_nil, List.drop_succ_cons, List.drop_zero, List.drop_nil, List.nil_append, List.cons_append, List.append_nil, List.length_cons, List.length_nil, Nat.reduceAdd, Nat.zero_add]; rfl) | rfl) (by first | (simp only [List.set_cons_zero, List.set_cons_succ]; rfl) | rfl) ?_
  refine wl_nil ?_
  refine fq_then ?_
  refine wc_seq ?_
  refine wc_seq ?_
  refine wc_region ?_
  refine wl_q (q_assign rfl rfl) rfl rfl (by decide) ?_
  refine wl_nil ?_
  refine fq_then ?_
  refine wc_block ?_
  refine wc_own (E := 45) (sz := 3) ?_
  refine wc_loop (ι := (Nat × Gh)) (fun i => [(1, .pointer (some ⟨b1, 0, none⟩)), (2, .pointer (some ⟨b2, 0, none⟩)), (3, .pointer (some ⟨b3, 0, none⟩)), (4, .int .i64 (i.1 : Nat))]) (fun i => [.own 0 45 3 (.slice i.2.1 i.1 i.2.2) i.1 (((l.take i.1).map to45).flatMap c45), .blk b3 [.bool m, .bool g, .int .i64 c, .int .u64 b, .slice i.2.1 i.1 i.2.2] 31, .blk b2 [.bool false, .bool false, .int .i64 0, .int .u64 0, .slice none 0 0] 31, .blk b1 [.bool m, .bool g, .int .i64 c, .int .u64 b, .slice q.1 l.length q.2] 25, old w]) (fun i => i.1 ≤ l.length) (fun i => l.length - i.1) (0, (none, 0)) (Nat.zero_le _) ⟨List.forall_mem_cons.2 ⟨rfl, List.forall_mem_cons.2 ⟨rfl, List.forall_mem_cons.2 ⟨rfl, List.forall_mem_cons.2 ⟨rfl, fun _ h => (by cases h)⟩⟩⟩⟩, List.Sublist.refl _⟩ ?_
  rintro ⟨j, qw⟩ hj
  simp only at hj
  dsimp only
  refine wc_seq ?_
  refine wc_seq ?_
  refine wc_region ?_
  refine wl_q (q_move rfl rfl) rfl rfl (by decide) ?_
  refine wl_q (q_fa (o1 := 4) rfl rfl Fo25_4 rfl) rfl rfl (by decide) ?_
  refine wl_q (q_load rfl rfl Mn23 (reads1 (i := 3) rfl rfl)) rfl rfl (by decide) ?_
  refine wl_q (q_len rfl rfl Tryz.underlying23) rfl rfl (by decide) ?_
  refine wl_q (q_bin rfl rfl rfl rfl) rfl rfl (by decide) ?_
  refine wl_nil ?_
  refine fq_then ?_
  refine wc_cond rfl (fun h18 => ?_) (fun h18 => ?_)
  · skip
    have q18 := h18
    try simp only [decide_eq_true_eq, decide_eq_false_iff_not, beq_iff_eq, beq_eq_false_iff_ne, bne_iff_ne, ne_eq, bne_eq_false_iff_eq, Int.not_lt, Int.not_le] at q18
    obtain ⟨p, hp⟩ : ∃ p, l[j]? = some p := ⟨_, List.getElem?_eq_getElem (by omega)⟩
    obtain ⟨ad, hA, hrd⟩ := hr.at hp
    have wj : IntKind.i64.wrap ((j : Int) + 1) = ((j + 1 : Nat) : Int) := wrap_nat (by omega)
    refine wc_skip ?_
    refine fq_then ?_
    refine wc_seq ?_
    refine wc_block ?_
    refine wc_any Fol (any_drawG (ι := Gh) 25 2 [(21, fun X => [Sx.Item.blk (X 21).2 [Value.int .i64 p.f0, .int .i64 p.f1, .int .i64 p.f2] 45]), (22, fun X => [Sx.Item.own 0 45 3 (.slice (X 22).1 (j + 1) (X 22).2) (j + 1) (((l.take j).map to45).flatMap c45 ++ [Value.int .i64 p.f0, .int .i64 p.f1, .int .i64 p.f2])]), (24, fun X => [Sx.Item.blk b3 [.bool m, .bool g, .int .i64 c, .int .u64 b, .slice (X 22).1 (j + 1) (X 22).2] 31])] [⟨[], [], []⟩, ⟨[], [25, 26], []⟩, ⟨[], [], []⟩, ⟨[], [25, 26], []⟩, ⟨[], [], []⟩, ⟨[], [], []⟩, ⟨[], [], []⟩, ⟨[], [25, 26], []⟩, ⟨[], [], []⟩, ⟨[], [25, 26], []⟩, ⟨[], [], []⟩, ⟨[], [], []⟩, ⟨[], [], []⟩, ⟨[], [25, 26], []⟩, ⟨[], [], []⟩, ⟨[], [25, 26], []⟩, ⟨[], [], []⟩, ⟨[], [], []⟩, ⟨[], [], []⟩, ⟨[], [25, 26], []⟩, ⟨[], [], []⟩, ⟨[], [], []⟩, ⟨[21, 25], [], [21]⟩, ⟨[], [], [21, 22]⟩, ⟨[26], [], [21, 22]⟩] (by kernel_rfl) (ChainG.yield [] [] (fun X => q_fa (o1 := 4) rfl rfl Fo31_4 rfl) rfl rfl (fun _ => rfl) (fun _ _ => rfl) (fun X Y h0 h => ⟨by first | rfl | simp only [h0], by first | rfl | simp only [h0]⟩) (ChainG.yield [25, 26] [] (fun X => q_load rfl rfl Mn29 (reads1 (i := 1) rfl rfl)) rfl rfl (fun _ => rfl) (fun _ _ => rfl) (fun X Y h0 h => ⟨by first | rfl | simp only [h0], by first | rfl | simp only [h0]⟩) (ChainG.yield [] [] (fun X => q_fa (o1 := 4) rfl rfl Fo25_4 rfl) rfl rfl (fun _ => rfl) (fun _ _ => rfl) (fun X Y h0 h => ⟨by first | rfl | simp only [h0], by first | rfl | simp only [h0]⟩) (ChainG.yield [25, 26] [] (fun X => q_load rfl rfl Mn23 (reads1 (i := 3) rfl rfl)) rfl rfl (fun _ => rfl) (fun _ _ => rfl) (fun X Y h0 h => ⟨by first | rfl | simp only [h0], by first | rfl | simp only [h0]⟩) (ChainG.yield [] [] (fun X => q_move rfl rfl) rfl rfl (fun _ => rfl) (fun _ _ => rfl) (fun X Y h0 h => ⟨by first | rfl | simp only [h0], by first | rfl | simp only [h0]⟩) (ChainG.yield [] [] (fun X => q_indexO rfl rfl hA rfl Tryz.underlying23 Sz49 (by omega) (by omega)) rfl rfl (fun _ => rfl) (fun _ _ => rfl) (fun X Y h0 h => ⟨by first | rfl | simp only [h0], by first | rfl | simp only [h0]⟩) (ChainG.yield [] [] (fun X => q_fax rfl rfl Fo49_0 rfl) rfl rfl (fun _ => rfl) (fun _ _ => rfl) (fun X Y h0 h => ⟨by first | rfl | simp only [h0], by first | rfl | simp only [h0]⟩) (ChainG.yield [25, 26] [] (fun X => q_load rfl rfl Mn3 (reads_old (by simp) (cell_zero (CellsAt.one (ad := ad) (cs := [.int .i64 p.f0, .int .i64 p.f1, .int .i64 p.f2]) (j := 0) hrd rfl)))) rfl rfl (fun _ => rfl) (fun _ _ => rfl) (fun X Y h0 h => ⟨by first | rfl | simp only [h0], by first | rfl | simp only [h0]⟩) (ChainG.yield [] [] (fun X => q_fa (o1 := 4) rfl rfl Fo25_4 rfl) rfl rfl (fun _ => rfl) (fun _ _ => rfl) (fun X Y h0 h => ⟨by first | rfl | simp only [h0], by first | rfl | simp only [h0]⟩) (ChainG.yield [25, 26] [] (fun X => q_load rfl rfl Mn23 (reads1 (i := 3) rfl rfl)) rfl rfl (fun _ => rfl) (fun _ _ => rfl) (fun X Y h0 h => ⟨by first | rfl | simp only [h0], by first | rfl | simp only [h0]⟩) (ChainG.yield [] [] (fun X => q_move rfl rfl) rfl rfl (fun _ => rfl) (fun _ _ => rfl) (fun X Y h0 h => ⟨by first | rfl | simp only [h0], by first | rfl | simp only [h0]⟩) (ChainG.yield [] [] (fun X => q_indexO rfl rfl hA rfl Tryz.underlying23 Sz49 (by omega) (by omega)) rfl rfl (fun _ => rfl) (fun _ _ => rfl) (fun X Y h0 h => ⟨by first | rfl | simp only [h0], by first | rfl | simp only [h0]⟩) (ChainG.yield [] [] (fun X => q_fax rfl rfl Fo49_1 rfl) rfl rfl (fun _ => rfl) (fun _ _ => rfl) (fun X Y h0 h => ⟨by first | rfl | simp only [h0], by first | rfl | simp only [h0]⟩) (ChainG.yield [25, 26] [] (fun X => q_load rfl rfl Mn3 (reads_old (by simp) (cell_zero (CellsAt.one (ad := ad) (cs := [.int .i64 p.f0, .int .i64 p.f1, .int .i64 p.f2]) (j := 1) hrd rfl)))) rfl rfl (fun _ => rfl) (fun _ _ => rfl) (fun X Y h0 h => ⟨by first | rfl | simp only [h0], by first | rfl | simp only [h0]⟩) (ChainG.yield [] [] (fun X => q_fa (o1 := 4) rfl rfl Fo25_4 rfl) rfl rfl (fun _ => rfl) (fun _ _ => rfl) (fun X Y h0 h => ⟨by first | rfl | simp only [h0], by first | rfl | simp only [h0]⟩) (ChainG.yield [25, 26] [] (fun X => q_load rfl rfl Mn23 (reads1 (i := 3) rfl rfl)) rfl rfl (fun _ => rfl) (fun _ _ => rfl) (fun X Y h0 h => ⟨by first | rfl | simp only [h0], by first | rfl | simp only [h0]⟩) (ChainG.yield [] [] (fun X => q_move rfl rfl) rfl rfl (fun _ => rfl) (fun _ _ => rfl) (fun X Y h0 h => ⟨by first | rfl | simp only [h0], by first | rfl | simp only [h0]⟩) (ChainG.yield [] [] (fun X => q_indexO rfl rfl hA rfl Tryz.underlying23 Sz49 (by omega) (by omega)) rfl rfl (fun _ => rfl) (fun _ _ => rfl) (fun X Y h0 h => ⟨by first | rfl | simp only [h0], by first | rfl | simp only [h0]⟩) (ChainG.yield [] [] (fun X => q_fax rfl rfl Fo49_2 rfl) rfl rfl (fun _ => rfl) (fun _ _ => rfl) (fun X Y h0 h => ⟨by first | rfl | simp only [h0], by first | rfl | simp only [h0]⟩) (ChainG.yield [25, 26] [] (fun X => q_load rfl rfl Mn3 (reads_old (by simp) (cell_zero (CellsAt.one (ad := ad) (cs := [.int .i64 p.f0, .int .i64 p.f1, .int .i64 p.f2]) (j := 2) hrd rfl)))) rfl rfl (fun _ => rfl) (fun _ _ => rfl) (fun X Y h0 h => ⟨by first | rfl | simp only [h0], by first | rfl | simp only [h0]⟩) (ChainG.yield [] [] (fun X => q_build rfl rfl (built_of Zr45 Pl45 (by simp only [fillL, List.map_cons, List.map_nil, Value.cells, List.getElem?_cons_zero, List.getElem?_cons_succ, List.length_cons, List.length_nil, Nat.reduceAdd, Nat.reduceLeDiff, Nat.le_refl, and_self, and_true, true_and, if_true, Nat.zero_add, spl, List.take_succ_cons, List.take_zero, List.take_nil, List.drop_succ_cons, List.drop_zero, List.drop_nil, List.nil_append, List.cons_append, List.append_nil] <;> rfl))) rfl rfl (fun _ => rfl) (fun _ _ => rfl) (fun X Y h0 h => ⟨by first | rfl | simp only [h0], by first | rfl | simp only [h0]⟩) (ChainG.mk (fun b => .slice (some ⟨b, 0, none⟩) 1 1) [] (fun X => om_buildSlice rfl rfl Tryz.underlying29 (built_one Sz45 (by decide) Zs45 (by decide) rfl rfl)) rfl rfl (fun _ => rfl) (fun _ _ => rfl) (fun X Y h0 h => ⟨by first | rfl | simp only [h0], by first | rfl | (show ([Sx.Item.blk (X 21).2 [Value.int .i64 p.f0, .int .i64 p.f1, .int .i64 p.f2] 45] : List Sx.Item) = [Sx.Item.blk (Y 21).2 [Value.int .i64 p.f0, .int .i64 p.f1, .int .i64 p.f2] 45]; simp only [h0])⟩) (ChainG.ope (fun (X : Nat → Gh) => .slice (X 22).1 (j + 1) (X 22).2) [21, 25] [21] (fun X => (oe_appendR (i := 1) (m := 1) (news := [Value.int .i64 p.f0, .int .i64 p.f1, .int .i64 p.f2]) rfl Tryz.underlying29 Ap45 (by decide) rfl rfl rfl (fun R w1 hw1 _ => ⟨_, rfl, fun k u hu => by (have hg := readsAll (w0 := w) (hp := _) (i := 0) (cs := [Value.int .i64 p.f0, .int .i64 p.f1, .int .i64 p.f2]) (T := 45) rfl w1 hw1 k u hu; exact hg)⟩) rfl (by simp [Value.oneCell']) (by unfold maxLen; omega) (by omega)).less (fun _ => List.sublist_cons_self _ _)) rfl rfl (fun X Y h0 h => ⟨by first | rfl | (show (.slice (X 22).1 (j + 1) (X 22).2 : Value) = .slice (Y 22).1 (j + 1) (Y 22).2; simp only [h0, h 21 (by decide)]), by first | rfl | (show ([Sx.Item.own 0 45 3 (.slice (X 22).1 (j + 1) (X 22).2) (j + 1) (((l.take j).map to45).flatMap c45 ++ [Value.int .i64 p.f0, .int .i64 p.f1, .int .i64 p.f2])] : List Sx.Item) = [Sx.Item.own 0 45 3 (.slice (Y 22).1 (j + 1) (Y 22).2) (j + 1) (((l.take j).map to45).flatMap c45 ++ [Value.int .i64 p.f0, .int .i64 p.f1, .int .i64 p.f2])]; simp only [h0, h 21 (by decide)])⟩) (ChainG.yield [] [21, 22] (fun X => q_fa (o1 := 4) rfl rfl Fo31_4 rfl) rfl rfl (fun _ => rfl) (fun _ _ => rfl) (fun X Y h0 h => ⟨by first | rfl | simp only [h0, h 21 (by decide), h 22 (by decide)], by first | rfl | simp only [h0, h 21 (by decide), h 22 (by decide)]⟩) (ChainG.store [26] [21, 22] (fun X => oe_storeAt (i := 0) rfl rfl rfl rfl Sz29 rfl rfl (by simp) (by simp [Value.oneCell']) rfl rfl) rfl rfl (fun _ => rfl) (fun _ _ => rfl) (fun X Y h0 h => ⟨by first | rfl | simp only [h0, h 21 (by decide), h 22 (by decide)], by first | rfl | (show ([Sx.Item.blk b3 [.bool m, .bool g, .int .i64 c, .int .u64 b, .slice (X 22).1 (j + 1) (X 22).2] 31] : List Sx.Item) = [Sx.Item.blk b3 [.bool m, .bool g, .int .i64 c, .int .u64 b, .slice (Y 22).1 (j + 1) (Y 22).2] 31]; simp only [h0, h 21 (by decide), h 22 (by decide)])⟩) (ChainG.nil _ _)))))))))))))))))))))))))) rfl rfl (fun X => [_, _, _, _, _]) (fun _ => rfl) (fun X => ?_))
    generalize X 22 = qa
    try dsimp only [List.take_succ_cons, List.take_zero, List.take_nil, List.drop_succ_cons, List.drop_zero, List.drop_nil, List.nil_append, List.cons_append, List.append_nil, List.length_cons, List.length_nil, Nat.reduceAdd, Nat.zero_add]
    refine wl_nil ?_
    refine fq_block ?_
    refine fq_then ?_
    refine wc_region ?_
    refine wl_q (q_move rfl rfl) rfl rfl (by decide) ?_
    refine wl_q (q_bin rfl rfl rfl rfl) rfl rfl (by decide) ?_
    refine wl_q (q_assign rfl rfl) rfl rfl (by decide) ?_
    refine wl_nil ?_
    rw [← take45 hp]
    refine fq_next (j + 1, qa) (show j + 1 ≤ l.length by omega) (show l.length - (j + 1) < l.length - j by omega) ⟨List.forall_mem_cons.2 ⟨rfl, List.forall_mem_cons.2 ⟨rfl, List.forall_mem_cons.2 ⟨rfl, List.forall_mem_cons.2 ⟨(show some (Value.int .i64 (IntKind.i64.wrap ((j : Int) + 1))) = some (Value.int .i64 ((j + 1 : Nat) : Int)) from by rw [wj]), fun _ h => (by cases h)⟩⟩⟩⟩, List.Sublist.refl _⟩
  · skip
    have q18 := h18
    try simp only [decide_eq_true_eq, decide_eq_false_iff_not, beq_iff_eq, beq_eq_false_iff_ne, bne_iff_ne, ne_eq, bne_eq_false_iff_eq, Int.not_lt, Int.not_le] at q18
    obtain rfl : j = l.length := by omega
    rw [List.take_of_length_le (Nat.le_refl _)]
    refine wc_exit ?_
    refine fq_then_exit ?_
    refine fq_then_exit ?_
    refine fq_block_hit ?_
    refine fq_then ?_
    refine wc_seq ?_
    refine wc_region ?_
    refine wl_q (q_loadA rfl rfl Mn31 Sz31 rfl (readsAll (i := 1) rfl)) rfl rfl (by decide) ?_
    refine wl_store (i := 2) rfl rfl rfl rfl rfl rfl Sz31 rfl rfl (by simp) (by simp [Value.oneCell', Sx.spl]) (by first | (simp only [List.take_succ_cons, List.take_zero, List.take_nil, List.drop_succ_cons, List.drop_zero, List.drop_nil, List.nil_append, List.cons_append, List.append_nil, List.length_cons, List.length_nil, Nat.reduceAdd, Nat.zero_add]; rfl) | rfl) (by first | (simp only [List.set_cons_zero, List.set_cons_succ]; rfl) | rfl) ?_
    refine wl_nil ?_
    refine fq_then ?_
    refine wc_ret ?_
    refine fq_cell (i := 2) (.inl rfl) rfl rfl rfl Mn31 Sz31 rfl (fun w1 H => ?_)
    exact ⟨qw, rfl, H.pick [0, 4] (by decide) rfl⟩
theorem own45 {w : World} {base : Nat} {i : Gh} {l : List S49} (h : w.ownsRow base 45 3 (.slice i.1 l.length i.2) l.length ((l.map to45).flatMap c45)) (hl : l.length ≤ 100000) : RowQ w i (l.map to45) := by
  have e : (l.map to45).length = l.length := List.length_map ..
  rw [← e] at h
  exact rowQ_of h rfl (by omega)
theorem rput_calls (m g : Bool) {c : Int} {b : Nat} {q : Gh} {l : List S49} (w : World) (hr : RowQ w q (l.map to45)) (hc : i64r c) (hb : b < 18446744073709551616) (hl : l.length ≤ 1000) (he : ∀ e ∈ l, i64r e.f1 ∧ i64r e.f2) : Calls Tryz.prog 9 #[.agg #[.bool m, .bool g, .int .i64 c, .int .u64 b, .slice q.1 l.length q.2]] w fun e w' => e = .returned (.string (putS m g c b l)) ∧ Below w.heap.size w w' := by
  have e : (l.map to45).length = l.length := List.length_map ..
  have := paternosterref24_Put.calls 1100 m g c (b : Int) q.1 q.2 (l.map to45) (putS m g c b l) w hr.2 hr.1 (rput_ev m g hc hb hl he (Nat.le_refl _))
  rw [e] at this
  exact this
theorem show_nil (w : World) : Calls Tryz.prog 15 #[.pointer none] w fun e w' => e = .returned (.string ⟨#[]⟩) ∧ Below w.heap.size w w' := by
  refine enter (w0 := w) (hp := [old w]) (env := [(0, .pointer none)]) Tryz.func15 rfl 56 rfl (by simp) rfl (HeapOK.start _) ?_
  refine wc_seq ?_
  refine wc_region ?_
  refine wl_q (q_assign rfl rfl) rfl rfl (by decide) ?_
  refine wl_nil ?_
  refine fq_then ?_
  refine wc_seq ?_
  refine wc_seq ?_
  refine wc_region ?_
  refine wl_q (q_move rfl rfl) rfl rfl (by decide) ?_
  refine wl_q (q_eqlP rfl rfl rfl Tryz.underlying79) rfl rfl (by decide) ?_
  refine wl_nil ?_
  refine fq_then ?_
  refine wc_true rfl ?_
  refine wc_seq ?_
  refine wc_region ?_
  refine wl_q (q_assign rfl rfl) rfl rfl (by decide) ?_
  refine wl_nil ?_
  refine fq_then ?_
  refine wc_ret ?_
  refine fq_then_ret ?_
  refine fq_ret1 rfl rfl (fun w1 H => ?_)
  exact ⟨rfl, H.toBelow (by simp)⟩
end Go.Proofs.YtglgipggefpoiaaGreatDoor.SF
end
section
namespace Go.Proofs.YtglgipggefpoiaaGreatDoor.SF
open Go.RowKit Go.Sx Go.Proofs.YtglgipggefpoiaaGreatDoor.PAll Go.Proofs.YtglgipggefpoiaaGreatDoorW.PrintWords Go.Proofs.YtglgipggefpoiaaGreatDoorW.PrintLast Go.Proofs.YtglgipggefpoiaaGreatDoorW.PrintMore
set_option linter.unusedVariables false
set_option linter.unusedSimpArgs false
set_option maxRecDepth 100000
theorem Zl58 : (Tryz.prog.info? 58).bind (·.zero) = some (.agg #[.string ⟨#[]⟩, .bool false, .bool false]) := by kernel_rfl
theorem wrap_id {x : Int} (h : -9223372036854775808 ≤ x ∧ x ≤ 9223372036854775807) : IntKind.i64.wrap x = x := by
  simp only [IntKind.wrap, IntKind.signed, IntKind.bits]; simp; omega
def evAt (l : List S49) (i : Nat) : Option (S49 × Option (ByteArray × Bool × Bool)) := l[i]?.map fun e => (e, formAt e.f0)
theorem evAt_none {l : List S49} {i : Nat} (h : evAt l i = none) (hi : i ≤ l.length) : i = l.length := by
  unfold evAt at h
  rw [Option.map_eq_none_iff, List.getElem?_eq_none_iff] at h
  omega
theorem evAt_some {l : List S49} {i : Nat} {e : S49} {f : Option (ByteArray × Bool × Bool)} (h : evAt l i = some (e, f)) : l[i]? = some e ∧ formAt e.f0 = f := by
  unfold evAt at h
  rw [Option.map_eq_some_iff] at h
  obtain ⟨e', h1, h2⟩ := h
  cases h2
  exact ⟨h1, rfl⟩
theorem row_next {l : List S49} {i : Nat} {e : S49} {ws : List ByteArray} (hle : l[i]? = some e) (hw : evW e = ws) : (l.take (i + 1)).flatMap evW = (l.take i).flatMap evW ++ ws := by
  rw [List.take_add_one, hle, List.flatMap_append]
  simp [hw]
theorem row_len {l : List S49} {i : Nat} {e : S49} {ws : List ByteArray} (hle : l[i]? = some e) (hw : evW e = ws) : 4 + ((l.take (i + 1)).flatMap evW).length = 4 + ((l.take i).flatMap evW).length + ws.length := by
  rw [row_next hle hw, List.length_append, Nat.add_assoc]
theorem row_small {l : List S49} {i : Nat} (h : l.length ≤ 100) : ((l.take i).flatMap evW).length ≤ 300 := by
  have := evs_len (l.take i)
  rw [List.length_take] at this
  omega
theorem strs_of {w : World} {A : Option Addr} {n c : Nat} {xs : List ByteArray} (h : w.ownsRow 0 9 1 (.slice A n c) n (xs.map Value.string)) : StrsAt w A xs ∧ n ≤ c := by
  rcases h.2 with ⟨e, e0⟩ | ⟨g, cap, cur, e, hg, hh, hn, hm, hs, ht⟩
  · refine ⟨fun hne => ?_, by omega⟩
    have := h.1
    rw [e0, List.length_map] at this
    exact absurd (List.eq_nil_of_length_eq_zero (by omega)) hne
  · cases e
    refine ⟨fun hne => ⟨g, 0, rfl, fun j x hx => ?_⟩, hn⟩
    have h1 : (xs.map Value.string)[j]? = some (.string x) := by rw [List.getElem?_map, hx]; rfl
    rw [← ht, List.getElem?_take] at h1
    split at h1
    · rw [cell_of_row w g (0 + j) cur 9 (0, 0) hh, Nat.zero_add]; simpa using h1
    · cases h1
theorem row_val {p : Gh} {m g : Bool} {c : Int} {b : Nat} {l : List S49} : Value.slice p.1 (4 + ((l.take l.length).flatMap evW).length) p.2 = .slice p.1 (putW m g c b l).length p.2 := by
  rw [List.take_length, putW, List.length_append]; rfl
theorem putW_le {m g : Bool} {c : Int} {b : Nat} {l : List S49} (h : l.length ≤ 100) : (putW m g c b l).length ≤ 1000000 := by
  have := evs_len l
  rw [putW, List.length_append]
  show 4 + _ ≤ _
  omega
theorem putW_join {m g : Bool} {c : Int} {b : Nat} {l : List S49} (hc : i64r c) (hb : b < 18446744073709551616) (he : ∀ e ∈ l, i64r e.f1 ∧ i64r e.f2) (h : l.length ≤ 100) : (Lib.join ((putW m g c b l).map (·.data.toList)) (⟨#[32]⟩ : ByteArray).data.toList).length ≤ 140737488355328 := by
  have h1 := join_len_le (⟨#[32]⟩ : ByteArray).data.toList 21 (by decide) _ (putW_small m g hc hb he)
  have h2 := putW_le (m := m) (g := g) (c := c) (b := b) h
  rw [List.length_map] at h1
  omega
theorem strs_put {w : World} {p : Gh} {m g : Bool} {c : Int} {b : Nat} {l : List S49} (h : w.ownsRow 0 9 1 (.slice p.1 (4 + ((l.take l.length).flatMap evW).length) p.2) (4 + ((l.take l.length).flatMap evW).length) ((headW m g c b ++ (l.take l.length).flatMap evW).map Value.string)) : StrsAt w p.1 (putW m g c b l) ∧ (putW m g c b l).length ≤ p.2 := by
  rw [List.take_length] at h
  have h1 := strs_of h
  refine ⟨h1.1, ?_⟩
  rw [putW, List.length_append]
  exact h1.2
theorem put_calls (m g : Bool) (c : Int) (b : Nat) (q : Gh) (l : List S49) (w : World) (hL : Lw w) (hE : RowE w q l) (hc : i64r c) (hb : b < 18446744073709551616) (hl : l.length ≤ 100) (hev0 : ∀ e ∈ l, i64r e.f1 ∧ i64r e.f2) :
    Calls Tryz.prog 8 #[.agg #[.bool m, .bool g, .int .i64 c, .int .u64 b, .slice q.1 l.length q.2]] w fun e w' => e = .returned (.string (putS m g c b l)) ∧ Below w.heap.size w w' := by
  refine enter (w0 := w) (hp := [old w]) (env := [(0, .agg #[.bool m, .bool g, .int .i64 c, .int .u64 b, .slice q.1 l.length q.2])]) Tryz.func8 rfl 63 rfl (by simp) rfl (HeapOK.start _) ?_
  refine wc_seq ?_
  refine wc_region ?_
  refine wl_box rfl rfl rfl (by decide) rfl rfl (fun b1 => ?_)
  refine wl_q (q_assign rfl rfl) rfl rfl (by decide) ?_
  refine wl_nil ?_
  refine fq_then ?_
  refine wc_seq ?_
  refine wc_any Fol (any_draw1 (ι := Nat) 13 12 21 _ _ (by kernel_rfl) (ChainM.yield (q_fa (o1 := 0) rfl rfl Fo25_0 rfl) rfl rfl rfl (ChainM.yield (q_load rfl rfl Mn4 (reads1 (i := 0) rfl rfl)) rfl rfl rfl (ChainM.yield (q_call rfl En16 rfl (fun w1 hw1 => word_of _ _ w1)) rfl rfl rfl (ChainM.yield (q_fa (o1 := 1) rfl rfl Fo25_1 rfl) rfl rfl rfl (ChainM.yield (q_load rfl rfl Mn4 (reads1 (i := 0) rfl rfl)) rfl rfl rfl (ChainM.yield (q_call rfl En16 rfl (fun w1 hw1 => word_of _ _ w1)) rfl rfl rfl (ChainM.yield (q_fa (o1 := 2) rfl rfl Fo25_2 rfl) rfl rfl rfl (ChainM.yield (q_load rfl rfl Mn3 (reads1 (i := 0) rfl rfl)) rfl rfl rfl (ChainM.yield (q_call rfl En17 rfl (fun w1 hw1 => itoa_calls _ hc w1 (hL.below (hw1.toBelow (by simp))))) rfl rfl rfl (ChainM.yield (q_fa (o1 := 3) rfl rfl Fo25_3 rfl) rfl rfl rfl (ChainM.yield (q_load rfl rfl Mn22 (reads1 (i := 0) rfl rfl)) rfl rfl rfl (ChainM.yield (q_call rfl En18 rfl (fun w1 hw1 => fu_calls b hb w1 (hL.below (hw1.toBelow (by simp))))) rfl rfl rfl (ChainM.gap rfl (ChainM.nil _ _)))))))))))))) rfl rfl (om_buildSlice rfl rfl Tryz.underlying54 (built_parts Sz9 (by decide) Zs9 (by simp [Value.cells]) rfl (by decide) (by decide) rfl)) (fun b2 => ?_))
  refine wl_q (q_assign rfl rfl) rfl rfl (by decide) ?_
  refine wl_nil ?_
  refine fq_then ?_
  refine wc_seq ?_
  refine wc_region ?_
  refine wl_call (ι := Nat) (fun i => .map (some i)) (fun i => .obj i (mobj .i64 formsL) :: _) (fun _ => True) rfl rfl rfl (by decide) En19 rfl (fun w1 hw1 => (forms_calls w1).mono (fun e w' ⟨i, h1, h2⟩ => ⟨i, trivial, h1, hw1.lift1 h2⟩)) (fun bm _ => ?_)
  skip
  refine wl_q (q_assign rfl rfl) rfl rfl (by decide) ?_
  refine wl_nil ?_
  refine fq_then ?_
  refine wc_seq ?_
  refine wc_seq ?_
  refine wc_region ?_
  refine wl_q (q_fa (o1 := 4) rfl rfl Fo25_4 rfl) rfl rfl (by decide) ?_
  refine wl_q (q_load rfl rfl Mn23 (reads1 (i := 2) rfl rfl)) rfl rfl (by decide) ?_
  refine wl_q (q_len rfl rfl Tryz.underlying23) rfl rfl (by decide) ?_
  refine wl_q (q_move rfl rfl) rfl rfl (by decide) ?_
  refine wl_nil ?_
  refine fq_then ?_
  refine wc_block ?_
  refine wc_blkOwn 1 4 1 rfl rfl (by decide) ?_
  refine wc_loop (ι := (Nat × Gh)) (fun ⟨i, p⟩ => [(3, .slice p.1 (4 + ((l.take i).flatMap evW).length) p.2), (4, .map (some bm)), (24, .slice q.1 l.length q.2), (25, .int .i64 l.length), (26, .int .i64 (i : Nat))]) (fun ⟨i, p⟩ => [.obj bm (mobj .i64 formsL), .own 0 9 1 (.slice p.1 (4 + ((l.take i).flatMap evW).length) p.2) (4 + ((l.take i).flatMap evW).length) ((headW m g c b ++ (l.take i).flatMap evW).map Value.string), old w]) (fun ⟨i, p⟩ => i ≤ l.length) (fun ⟨i, p⟩ => l.length - i) (0, (some ⟨b2, 0, none⟩, 4)) (Nat.zero_le _) ⟨List.forall_mem_cons.2 ⟨rfl, List.forall_mem_cons.2 ⟨rfl, List.forall_mem_cons.2 ⟨rfl, List.forall_mem_cons.2 ⟨rfl, List.forall_mem_cons.2 ⟨rfl, fun _ h => (by cases h)⟩⟩⟩⟩⟩, List.Sublist.cons_cons _ (List.Sublist.cons_cons _ (List.Sublist.cons _ (List.Sublist.cons_cons _ (List.Sublist.refl []))))⟩ ?_
  rintro ⟨i, p⟩ hi
  dsimp only at hi ⊢
  rcases hev : evAt l i with _ | ⟨e, _ | ⟨wd, c1, n1⟩⟩
  · skip
    have hil := evAt_none hev hi
    subst hil
    refine wc_seq ?_
    refine wc_region ?_
    refine wl_q (OpQ.to (q_bin rfl rfl rfl rfl) (congrArg Value.bool (show decide _ = false by rw [decide_eq_false_iff_not]; omega))) rfl rfl (by decide) ?_
    refine wl_nil ?_
    refine fq_then ?_
    refine wc_seq ?_
    refine wc_false rfl ?_
    refine wc_exit ?_
    refine fq_then_exit ?_
    refine fq_then_exit ?_
    refine fq_block_hit ?_
    refine fq_then ?_
    refine wc_seq ?_
    refine wc_region ?_
    refine wl_q (OpQ.to (q_move rfl rfl) (row_val (m := m) (g := g) (c := c) (b := b))) rfl rfl (by decide) ?_
    refine wl_q (q_call rfl En20 rfl (fun w1 hw1 => join_calls p.1 p.2 (putW m g c b l) ⟨#[32]⟩ w1 (strs_put (hw1.get (i := 1) rfl)).1 (putW_le hl) (strs_put (hw1.get (i := 1) rfl)).2 (by simp [putW, headW]) (putW_join hc hb hev0 hl))) rfl rfl (by decide) ?_
    refine wl_q (q_assign rfl rfl) rfl rfl (by decide) ?_
    refine wl_nil ?_
    refine fq_then ?_
    refine wc_ret ?_
    refine fq_ret1 rfl rfl (fun w1 H => ?_)
    exact ⟨rfl, H.toBelow (by simp)⟩
  · skip
    obtain ⟨hle, hf⟩ := evAt_some hev
    have hil := (List.getElem?_eq_some_iff.1 hle).1
    obtain ⟨ad, hA, hcev⟩ := hE.at hle
    have hsm := row_small (i := i) hl
    refine wc_seq ?_
    refine wc_region ?_
    refine wl_q (OpQ.to (q_bin rfl rfl rfl rfl) (congrArg Value.bool (show decide _ = true by rw [decide_eq_true_eq]; omega))) rfl rfl (by decide) ?_
    refine wl_nil ?_
    refine fq_then ?_
    refine wc_seq ?_
    refine wc_true rfl ?_
    refine wc_skip ?_
    refine fq_then ?_
    refine wc_seq ?_
    refine wc_block ?_
    refine wc_seq ?_
    refine wc_region ?_
    refine wl_q (q_indexO rfl rfl hA rfl Tryz.underlying23 Sz49 (by omega) (by omega)) rfl rfl (by decide) ?_
    refine wl_q (q_loadA rfl rfl Mn49 Sz49 rfl (reads_old (by simp) hcev)) rfl rfl (by decide) ?_
    refine wl_alloc rfl rfl rfl (by decide) Zr49 (fun b3 => ?_)
    refine wl_store (i := 0) rfl rfl rfl rfl rfl rfl Sz49 rfl rfl (by simp) (by simp [Value.oneCell']) (by first | (simp only [List.take_succ_cons, List.take_zero, List.take_nil, List.drop_succ_cons, List.drop_zero, List.drop_nil, List.nil_append, List.cons_append, List.append_nil, List.length_cons, List.length_nil, Nat.reduceAdd, Nat.zero_add]; rfl) | rfl) (by first | (simp only [List.set_cons_zero, List.set_cons_succ]; rfl) | rfl) ?_
    refine wl_nil ?_
    refine fq_then ?_
    refine wc_seq ?_
    refine wc_region ?_
    refine wl_q (q_move rfl rfl) rfl rfl (by decide) ?_
    refine wl_q (q_fa (o1 := 0) rfl rfl Fo49_0 rfl) rfl rfl (by decide) ?_
    refine wl_q (q_load rfl rfl Mn3 (reads1 (i := 0) rfl rfl)) rfl rfl (by decide) ?_
    refine wl_q (q_lookupOk (i := 1) (v := .agg #[.string ⟨#[]⟩, .bool false, .bool false]) (c := false) rfl rfl rfl Tryz.underlying55 Tryz.underlying3 Zl58 rfl (by rw [find_form, hf]; rfl) (by rw [find_form, hf]; rfl)) rfl rfl (by decide) ?_
    refine wl_q (q_move rfl rfl) rfl rfl (by decide) ?_
    refine wl_q (q_extract rfl rfl rfl) rfl rfl (by decide) ?_
    refine wl_q (q_extract rfl rfl rfl) rfl rfl (by decide) ?_
    refine wl_alloc rfl rfl rfl (by decide) Zr58 (fun b4 => ?_)
    refine wl_store (i := 0) rfl rfl rfl rfl rfl rfl Sz58 rfl rfl (by simp) (by simp [Value.oneCell']) (by first | (simp only [List.take_succ_cons, List.take_zero, List.take_nil, List.drop_succ_cons, List.drop_zero, List.drop_nil, List.nil_append, List.cons_append, List.append_nil, List.length_cons, List.length_nil, Nat.reduceAdd, Nat.zero_add]; rfl) | rfl) (by first | (simp only [List.set_cons_zero, List.set_cons_succ]; rfl) | rfl) ?_
    refine wl_q (q_assign rfl rfl) rfl rfl (by decide) ?_
    refine wl_nil ?_
    refine fq_then ?_
    refine wc_seq ?_
    refine wc_seq ?_
    refine wc_region ?_
    refine wl_q (q_move rfl rfl) rfl rfl (by decide) ?_
    refine wl_q (q_not rfl rfl) rfl rfl (by decide) ?_
    refine wl_nil ?_
    refine fq_then ?_
    refine wc_true rfl ?_
    refine wc_exit ?_
    refine fq_then_exit ?_
    refine fq_block_hit ?_
    refine fq_then ?_
    refine wc_region ?_
    refine wl_q (q_bin rfl rfl rfl rfl) rfl rfl (by decide) ?_
    refine wl_q (q_move rfl rfl) rfl rfl (by decide) ?_
    refine wl_nil ?_
    have hw : evW e = [] := by simp [evW, hf, ibs]
    refine fq_ownEq 3 (v' := .slice p.1 (4 + ((l.take (i + 1)).flatMap evW).length) p.2) (n' := 4 + ((l.take (i + 1)).flatMap evW).length) (xs' := (headW m g c b ++ (l.take (i + 1)).flatMap evW).map Value.string) rfl (by rw [row_len hle hw]; rfl) (by rw [row_len hle hw]; rfl) (by rw [row_next hle hw]; simp) ?_
    refine fq_next (i + 1, (p)) (by omega) (show l.length - (i + 1) < l.length - i by omega) ⟨List.forall_mem_cons.2 ⟨(show some (Value.slice _ _ _) = some (Value.slice _ _ _) from by rw [row_len hle hw]; rfl), List.forall_mem_cons.2 ⟨rfl, List.forall_mem_cons.2 ⟨rfl, List.forall_mem_cons.2 ⟨rfl, List.forall_mem_cons.2 ⟨(show some (Value.int .i64 (IntKind.i64.wrap ((i : Int) + 1))) = some (Value.int .i64 ((i + 1 : Nat) : Int)) from by rw [wrap_id (by omega)]; rfl), fun _ h => (by cases h)⟩⟩⟩⟩⟩, List.Sublist.cons _ (List.Sublist.cons _ (List.Sublist.cons_cons _ (List.Sublist.cons_cons _ (List.Sublist.cons_cons _ (List.Sublist.refl [])))))⟩
  · skip
    obtain ⟨hle, hf⟩ := evAt_some hev
    have hil := (List.getElem?_eq_some_iff.1 hle).1
    obtain ⟨ad, hA, hcev⟩ := hE.at hle
    have hsm := row_small (i := i) hl
    obtain ⟨hr1, hr2⟩ := hev0 e (List.mem_of_getElem? hle)
    refine wc_seq ?_
    refine wc_region ?_
    refine wl_q (OpQ.to (q_bin rfl rfl rfl rfl) (congrArg Value.bool (show decide _ = true by rw [decide_eq_true_eq]; omega))) rfl rfl (by decide) ?_
    refine wl_nil ?_
    refine fq_then ?_
    refine wc_seq ?_
    refine wc_true rfl ?_
    refine wc_skip ?_
    refine fq_then ?_
    refine wc_seq ?_
    refine wc_block ?_
    refine wc_seq ?_
    refine wc_region ?_
    refine wl_q (q_indexO rfl rfl hA rfl Tryz.underlying23 Sz49 (by omega) (by omega)) rfl rfl (by decide) ?_
    refine wl_q (q_loadA rfl rfl Mn49 Sz49 rfl (reads_old (by simp) hcev)) rfl rfl (by decide) ?_
    refine wl_alloc rfl rfl rfl (by decide) Zr49 (fun b5 => ?_)
    refine wl_store (i := 0) rfl rfl rfl rfl rfl rfl Sz49 rfl rfl (by simp) (by simp [Value.oneCell']) (by first | (simp only [List.take_succ_cons, List.take_zero, List.take_nil, List.drop_succ_cons, List.drop_zero, List.drop_nil, List.nil_append, List.cons_append, List.append_nil, List.length_cons, List.length_nil, Nat.reduceAdd, Nat.zero_add]; rfl) | rfl) (by first | (simp only [List.set_cons_zero, List.set_cons_succ]; rfl) | rfl) ?_
    refine wl_nil ?_
    refine fq_then ?_
    refine wc_seq ?_
    refine wc_region ?_
    refine wl_q (q_move rfl rfl) rfl rfl (by decide) ?_
    refine wl_q (q_fa (o1 := 0) rfl rfl Fo49_0 rfl) rfl rfl (by decide) ?_
    refine wl_q (q_load rfl rfl Mn3 (reads1 (i := 0) rfl rfl)) rfl rfl (by decide) ?_
    refine wl_q (q_lookupOk (i := 1) (v := .agg #[.string wd, .bool c1, .bool n1]) (c := true) rfl rfl rfl Tryz.underlying55 Tryz.underlying3 Zl58 rfl (by rw [find_form, hf]; rfl) (by rw [find_form, hf]; rfl)) rfl rfl (by decide) ?_
    refine wl_q (q_move rfl rfl) rfl rfl (by decide) ?_
    refine wl_q (q_extract rfl rfl rfl) rfl rfl (by decide) ?_
    refine wl_q (q_extract rfl rfl rfl) rfl rfl (by decide) ?_
    refine wl_alloc rfl rfl rfl (by decide) Zr58 (fun b6 => ?_)
    refine wl_store (i := 0) rfl rfl rfl rfl rfl rfl Sz58 rfl rfl (by simp) (by simp [Value.oneCell']) (by first | (simp only [List.take_succ_cons, List.take_zero, List.take_nil, List.drop_succ_cons, List.drop_zero, List.drop_nil, List.nil_append, List.cons_append, List.append_nil, List.length_cons, List.length_nil, Nat.reduceAdd, Nat.zero_add]; rfl) | rfl) (by first | (simp only [List.set_cons_zero, List.set_cons_succ]; rfl) | rfl) ?_
    refine wl_q (q_assign rfl rfl) rfl rfl (by decide) ?_
    refine wl_nil ?_
    refine fq_then ?_
    refine wc_seq ?_
    refine wc_seq ?_
    refine wc_region ?_
    refine wl_q (q_move rfl rfl) rfl rfl (by decide) ?_
    refine wl_q (q_not rfl rfl) rfl rfl (by decide) ?_
    refine wl_nil ?_
    refine fq_then ?_
    refine wc_false rfl ?_
    refine wc_skip ?_
    refine fq_then ?_
    refine wc_seq ?_
    refine wc_region ?_
    refine wl_q (q_move rfl rfl) rfl rfl (by decide) ?_
    refine wl_q (q_fa (o1 := 0) rfl rfl Fo58_0 rfl) rfl rfl (by decide) ?_
    refine wl_q (q_load rfl rfl Mn9 (reads1 (i := 0) rfl rfl)) rfl rfl (by decide) ?_
    refine wl_buildSlice rfl rfl rfl (by decide) rfl Tryz.underlying54 (built_one Sz9 (by decide) Zs9 (by decide) rfl rfl) (fun b7 => ?_)
    refine wl_append (i := 4) (m := 1) (news := [.string wd]) rfl rfl rfl (by decide) Tryz.underlying54 Ap9 (by decide) rfl rfl rfl (readsAll (i := 0) rfl) rfl (by simp [Value.oneCell']) (by unfold maxLen; omega) (by omega) (fun v43 _ => ?_)
    refine wl_ownForm (i := 4) rfl (fun A43 c43 e43 f43 => ?_)
    subst e43
    skip
    refine wl_q (q_assign rfl rfl) rfl rfl (by decide) ?_
    refine wl_nil ?_
    refine fq_then ?_
    refine wc_seq ?_
    refine wc_seq ?_
    refine wc_region ?_
    refine wl_q (q_fa (o1 := 1) rfl rfl Fo58_1 rfl) rfl rfl (by decide) ?_
    refine wl_q (q_load rfl rfl Mn4 (reads1 (i := 1) rfl rfl)) rfl rfl (by decide) ?_
    refine wl_nil ?_
    refine fq_then ?_
    refine wc_cond rfl (fun h45 => ?_) (fun h45 => ?_)
    · skip
      subst h45
      refine wc_region ?_
      refine wl_q (q_move rfl rfl) rfl rfl (by decide) ?_
      refine wl_q (q_fa (o1 := 1) rfl rfl Fo49_1 rfl) rfl rfl (by decide) ?_
      refine wl_q (q_load rfl rfl Mn3 (reads1 (i := 2) rfl rfl)) rfl rfl (by decide) ?_
      refine wl_q (q_call rfl En17 rfl (fun w1 hw1 => itoa_calls _ hr1 w1 (hL.below (hw1.toBelow (by simp))))) rfl rfl (by decide) ?_
      refine wl_buildSlice rfl rfl rfl (by decide) rfl Tryz.underlying54 (built_one Sz9 (by decide) Zs9 (by decide) rfl rfl) (fun b8 => ?_)
      refine wl_append (i := 5) (m := 1) (news := [.string (ibs e.f1)]) rfl rfl rfl (by decide) Tryz.underlying54 Ap9 (by decide) rfl rfl rfl (readsAll (i := 0) rfl) rfl (by simp [Value.oneCell']) (by unfold maxLen; omega) (by omega) (fun v51 _ => ?_)
      refine wl_ownForm (i := 5) rfl (fun A51 c51 e51 f51 => ?_)
      subst e51
      skip
      refine wl_q (q_assign rfl rfl) rfl rfl (by decide) ?_
      refine wl_nil ?_
      refine fq_then ?_
      refine wc_seq ?_
      refine wc_region ?_
      refine wl_q (q_fa (o1 := 2) rfl rfl Fo58_2 rfl) rfl rfl (by decide) ?_
      refine wl_q (q_load rfl rfl Mn4 (reads1 (i := 2) rfl rfl)) rfl rfl (by decide) ?_
      refine wl_nil ?_
      refine fq_then ?_
      refine wc_cond rfl (fun h53 => ?_) (fun h53 => ?_)
      · skip
        subst h53
        refine wc_region ?_
        refine wl_q (q_move rfl rfl) rfl rfl (by decide) ?_
        refine wl_q (q_fa (o1 := 2) rfl rfl Fo49_2 rfl) rfl rfl (by decide) ?_
        refine wl_q (q_load rfl rfl Mn3 (reads1 (i := 3) rfl rfl)) rfl rfl (by decide) ?_
        refine wl_q (q_call rfl En17 rfl (fun w1 hw1 => itoa_calls _ hr2 w1 (hL.below (hw1.toBelow (by simp))))) rfl rfl (by decide) ?_
        refine wl_buildSlice rfl rfl rfl (by decide) rfl Tryz.underlying54 (built_one Sz9 (by decide) Zs9 (by decide) rfl rfl) (fun b9 => ?_)
        refine wl_append (i := 6) (m := 1) (news := [.string (ibs e.f2)]) rfl rfl rfl (by decide) Tryz.underlying54 Ap9 (by decide) rfl rfl rfl (readsAll (i := 0) rfl) rfl (by simp [Value.oneCell']) (by unfold maxLen; omega) (by omega) (fun v59 _ => ?_)
        refine wl_ownForm (i := 6) rfl (fun A59 c59 e59 f59 => ?_)
        subst e59
        skip
        refine wl_q (q_assign rfl rfl) rfl rfl (by decide) ?_
        refine wl_nil ?_
        refine fq_block ?_
        refine fq_then ?_
        refine wc_region ?_
        refine wl_q (q_bin rfl rfl rfl rfl) rfl rfl (by decide) ?_
        refine wl_q (q_move rfl rfl) rfl rfl (by decide) ?_
        refine wl_nil ?_
        have hw : evW e = [wd, ibs e.f1, ibs e.f2] := by simp [evW, hf, ibs]
        refine fq_ownEq 6 (v' := .slice ((A59, c59) : Gh).1 (4 + ((l.take (i + 1)).flatMap evW).length) ((A59, c59) : Gh).2) (n' := 4 + ((l.take (i + 1)).flatMap evW).length) (xs' := (headW m g c b ++ (l.take (i + 1)).flatMap evW).map Value.string) rfl (by rw [row_len hle hw]; rfl) (by rw [row_len hle hw]; rfl) (by rw [row_next hle hw]; simp) ?_
        refine fq_next (i + 1, (((A59, c59) : Gh))) (by omega) (show l.length - (i + 1) < l.length - i by omega) ⟨List.forall_mem_cons.2 ⟨(show some (Value.slice _ _ _) = some (Value.slice _ _ _) from by rw [row_len hle hw]; rfl), List.forall_mem_cons.2 ⟨rfl, List.forall_mem_cons.2 ⟨rfl, List.forall_mem_cons.2 ⟨rfl, List.forall_mem_cons.2 ⟨(show some (Value.int .i64 (IntKind.i64.wrap ((i : Int) + 1))) = some (Value.int .i64 ((i + 1 : Nat) : Int)) from by rw [wrap_id (by omega)]; rfl), fun _ h => (by cases h)⟩⟩⟩⟩⟩, List.Sublist.cons _ (List.Sublist.cons _ (List.Sublist.cons _ (List.Sublist.cons _ (List.Sublist.cons _ (List.Sublist.cons_cons _ (List.Sublist.cons_cons _ (List.Sublist.cons_cons _ (List.Sublist.refl []))))))))⟩
      · skip
        subst h53
        refine wc_skip ?_
        refine fq_block ?_
        refine fq_then ?_
        refine wc_region ?_
        refine wl_q (q_bin rfl rfl rfl rfl) rfl rfl (by decide) ?_
        refine wl_q (q_move rfl rfl) rfl rfl (by decide) ?_
        refine wl_nil ?_
        have hw : evW e = [wd, ibs e.f1] := by simp [evW, hf, ibs]
        refine fq_ownEq 5 (v' := .slice ((A51, c51) : Gh).1 (4 + ((l.take (i + 1)).flatMap evW).length) ((A51, c51) : Gh).2) (n' := 4 + ((l.take (i + 1)).flatMap evW).length) (xs' := (headW m g c b ++ (l.take (i + 1)).flatMap evW).map Value.string) rfl (by rw [row_len hle hw]; rfl) (by rw [row_len hle hw]; rfl) (by rw [row_next hle hw]; simp) ?_
        refine fq_next (i + 1, (((A51, c51) : Gh))) (by omega) (show l.length - (i + 1) < l.length - i by omega) ⟨List.forall_mem_cons.2 ⟨(show some (Value.slice _ _ _) = some (Value.slice _ _ _) from by rw [row_len hle hw]; rfl), List.forall_mem_cons.2 ⟨rfl, List.forall_mem_cons.2 ⟨rfl, List.forall_mem_cons.2 ⟨rfl, List.forall_mem_cons.2 ⟨(show some (Value.int .i64 (IntKind.i64.wrap ((i : Int) + 1))) = some (Value.int .i64 ((i + 1 : Nat) : Int)) from by rw [wrap_id (by omega)]; rfl), fun _ h => (by cases h)⟩⟩⟩⟩⟩, List.Sublist.cons _ (List.Sublist.cons _ (List.Sublist.cons _ (List.Sublist.cons _ (List.Sublist.cons_cons _ (List.Sublist.cons_cons _ (List.Sublist.cons_cons _ (List.Sublist.refl [])))))))⟩
    · skip
      subst h45
      refine wc_skip ?_
      refine fq_then ?_
      refine wc_seq ?_
      refine wc_region ?_
      refine wl_q (q_fa (o1 := 2) rfl rfl Fo58_2 rfl) rfl rfl (by decide) ?_
      refine wl_q (q_load rfl rfl Mn4 (reads1 (i := 1) rfl rfl)) rfl rfl (by decide) ?_
      refine wl_nil ?_
      refine fq_then ?_
      refine wc_cond rfl (fun h53 => ?_) (fun h53 => ?_)
      · skip
        subst h53
        refine wc_region ?_
        refine wl_q (q_move rfl rfl) rfl rfl (by decide) ?_
        refine wl_q (q_fa (o1 := 2) rfl rfl Fo49_2 rfl) rfl rfl (by decide) ?_
        refine wl_q (q_load rfl rfl Mn3 (reads1 (i := 2) rfl rfl)) rfl rfl (by decide) ?_
        refine wl_q (q_call rfl En17 rfl (fun w1 hw1 => itoa_calls _ hr2 w1 (hL.below (hw1.toBelow (by simp))))) rfl rfl (by decide) ?_
        refine wl_buildSlice rfl rfl rfl (by decide) rfl Tryz.underlying54 (built_one Sz9 (by decide) Zs9 (by decide) rfl rfl) (fun b10 => ?_)
        refine wl_append (i := 5) (m := 1) (news := [.string (ibs e.f2)]) rfl rfl rfl (by decide) Tryz.underlying54 Ap9 (by decide) rfl rfl rfl (readsAll (i := 0) rfl) rfl (by simp [Value.oneCell']) (by unfold maxLen; omega) (by omega) (fun v59 _ => ?_)
        refine wl_ownForm (i := 5) rfl (fun A59 c59 e59 f59 => ?_)
        subst e59
        skip
        refine wl_q (q_assign rfl rfl) rfl rfl (by decide) ?_
        refine wl_nil ?_
        refine fq_block ?_
        refine fq_then ?_
        refine wc_region ?_
        refine wl_q (q_bin rfl rfl rfl rfl) rfl rfl (by decide) ?_
        refine wl_q (q_move rfl rfl) rfl rfl (by decide) ?_
        refine wl_nil ?_
        have hw : evW e = [wd, ibs e.f2] := by simp [evW, hf, ibs]
        refine fq_ownEq 5 (v' := .slice ((A59, c59) : Gh).1 (4 + ((l.take (i + 1)).flatMap evW).length) ((A59, c59) : Gh).2) (n' := 4 + ((l.take (i + 1)).flatMap evW).length) (xs' := (headW m g c b ++ (l.take (i + 1)).flatMap evW).map Value.string) rfl (by rw [row_len hle hw]; rfl) (by rw [row_len hle hw]; rfl) (by rw [row_next hle hw]; simp) ?_
        refine fq_next (i + 1, (((A59, c59) : Gh))) (by omega) (show l.length - (i + 1) < l.length - i by omega) ⟨List.forall_mem_cons.2 ⟨(show some (Value.slice _ _ _) = some (Value.slice _ _ _) from by rw [row_len hle hw]; rfl), List.forall_mem_cons.2 ⟨rfl, List.forall_mem_cons.2 ⟨rfl, List.forall_mem_cons.2 ⟨rfl, List.forall_mem_cons.2 ⟨(show some (Value.int .i64 (IntKind.i64.wrap ((i : Int) + 1))) = some (Value.int .i64 ((i + 1 : Nat) : Int)) from by rw [wrap_id (by omega)]; rfl), fun _ h => (by cases h)⟩⟩⟩⟩⟩, List.Sublist.cons _ (List.Sublist.cons _ (List.Sublist.cons _ (List.Sublist.cons _ (List.Sublist.cons_cons _ (List.Sublist.cons_cons _ (List.Sublist.cons_cons _ (List.Sublist.refl [])))))))⟩
      · skip
        subst h53
        refine wc_skip ?_
        refine fq_block ?_
        refine fq_then ?_
        refine wc_region ?_
        refine wl_q (q_bin rfl rfl rfl rfl) rfl rfl (by decide) ?_
        refine wl_q (q_move rfl rfl) rfl rfl (by decide) ?_
        refine wl_nil ?_
        have hw : evW e = [wd] := by simp [evW, hf, ibs]
        refine fq_ownEq 4 (v' := .slice ((A43, c43) : Gh).1 (4 + ((l.take (i + 1)).flatMap evW).length) ((A43, c43) : Gh).2) (n' := 4 + ((l.take (i + 1)).flatMap evW).length) (xs' := (headW m g c b ++ (l.take (i + 1)).flatMap evW).map Value.string) rfl (by rw [row_len hle hw]; rfl) (by rw [row_len hle hw]; rfl) (by rw [row_next hle hw]; simp) ?_
        refine fq_next (i + 1, (((A43, c43) : Gh))) (by omega) (show l.length - (i + 1) < l.length - i by omega) ⟨List.forall_mem_cons.2 ⟨(show some (Value.slice _ _ _) = some (Value.slice _ _ _) from by rw [row_len hle hw]; rfl), List.forall_mem_cons.2 ⟨rfl, List.forall_mem_cons.2 ⟨rfl, List.forall_mem_cons.2 ⟨rfl, List.forall_mem_cons.2 ⟨(show some (Value.int .i64 (IntKind.i64.wrap ((i : Int) + 1))) = some (Value.int .i64 ((i + 1 : Nat) : Int)) from by rw [wrap_id (by omega)]; rfl), fun _ h => (by cases h)⟩⟩⟩⟩⟩, List.Sublist.cons _ (List.Sublist.cons _ (List.Sublist.cons _ (List.Sublist.cons_cons _ (List.Sublist.cons_cons _ (List.Sublist.cons_cons _ (List.Sublist.refl []))))))⟩
end Go.Proofs.YtglgipggefpoiaaGreatDoor.SF
end
section
namespace Go.Proofs.YtglgipggefpoiaaGreatDoor.SF
open Go.RowKit Go.Sx Go.Proofs.YtglgipggefpoiaaGreatDoor.PAll Go.Proofs.YtglgipggefpoiaaGreatDoorW.PrintWords Go.Proofs.YtglgipggefpoiaaGreatDoorW.PrintLast Go.Proofs.YtglgipggefpoiaaGreatDoorW.PrintMore
set_option linter.unusedVariables false
set_option linter.unusedSimpArgs false
set_option maxRecDepth 100000
def ex1 : ByteArray := ⟨#[109, 97, 105, 110, 115, 32, 110, 111, 110, 101, 32, 48, 32, 48, 32, 99, 97, 108, 108, 32, 48, 32, 51]⟩
def ex2 : ByteArray := ⟨#[109, 97, 105, 110, 115, 32, 110, 111, 110, 101, 32, 48, 32, 48, 48]⟩
theorem ex1_tick : tickP ex1 = ((true, false, 0, 0, [⟨1, 0, 3⟩]), 0) := by kernel_rfl
theorem ex2_tick : tickP ex2 = ((false, false, 0, 0, []), 11) := by kernel_rfl
theorem ex1_put : putS true false 0 0 [⟨1, 0, 3⟩] = ex1 := by kernel_rfl
theorem parseE {s : ByteArray} {m g : Bool} {c : Int} {b : Nat} {L : List S49} {err : Int} (h : tickP s = ((m, g, c, b, L), err)) (w : World) (hL : Lw w) : Calls Tryz.prog 11 #[.string s] w fun e w' => ∃ q : Gh, RowE w' q L ∧ e = .returned (.tuple #[.agg #[.bool m, .bool g, .int .i64 c, .int .u64 b, .slice q.1 L.length q.2], .int .i64 err]) ∧ Below w.heap.size w w' := by
  have := parse_calls s w hL
  rw [h] at this
  exact this.mono (fun e w' ⟨q, h1, h2, h3⟩ => ⟨q, h2, h1, h3⟩)
theorem eqA49 (d : Nat) (w : World) (x0 y0 x1 y1 x2 y2 : Int) : (Op.equalIn (d + 2) 49 (.agg #[.int .i64 x0, .int .i64 x1, .int .i64 x2]) (.agg #[.int .i64 y0, .int .i64 y1, .int .i64 y2])).run Tryz.prog w = .ok (x0 == y0 && (x1 == y1 && (x2 == y2))) w := by
  refine eqA_of Tryz.underlying49 (by kernel_rfl) ?_
  refine eqf_cons (by rfl) (by go_simp; rfl) (by go_simp; rfl) (by go_simp) ?_
  refine eqf_cons (by rfl) (by go_simp; rfl) (by go_simp; rfl) (by go_simp) ?_
  exact eqf_last (by rfl) (by go_simp; rfl) (by go_simp; rfl) (by go_simp)
theorem eq49 (w : World) (x0 y0 x1 y1 x2 y2 : Int) : (Op.equal 49 (.agg #[.int .i64 x0, .int .i64 x1, .int .i64 x2]) (.agg #[.int .i64 y0, .int .i64 y1, .int .i64 y2])).run Tryz.prog w = .ok (x0 == y0 && (x1 == y1 && (x2 == y2))) w := by
  have h := eqA49 (Op.maxDepth - 2) w x0 y0 x1 y1 x2 y2
  rw [show Op.maxDepth - 2 + 2 = Op.maxDepth from rfl] at h
  simpa [Op.equal] using h
set_option maxHeartbeats 1000000 in
theorem awake_calls (w : World) (hL : Lw w) : Calls Tryz.prog 7 #[] w fun e w' => e = .returned (.bool true) ∧ Below w.heap.size w w' := by
  refine enter (w0 := w) (hp := [old w]) (env := []) Tryz.func7 rfl 51 rfl (by simp) rfl (HeapOK.start _) ?_
  refine wc_seq ?_
  refine wc_region ?_
  refine wl_q (q_assign rfl rfl) rfl rfl (by decide) ?_
  refine wl_nil ?_
  refine fq_then ?_
  refine wc_seq ?_
  refine wc_region ?_
  refine wl_callK (ι := Gh) (fun i => .tuple #[.agg #[.bool true, .bool false, .int .i64 0, .int .u64 0, .slice i.1 [⟨1, 0, 3⟩].length i.2], .int .i64 0]) (fun i w w' => RowE w' i [⟨1, 0, 3⟩]) rfl rfl rfl (by decide) En11 rfl (fun w1 hw1 => parseE (m := true) (g := false) (c := 0) (b := 0) (L := [⟨1, 0, 3⟩]) (err := 0) ex1_tick w1 (hL.below (hw1.toBelow (by simp)))) (fun p1 wa_ w_1 _ Hn_ _ hC_ => ?_)
  have hx_ := Hn_.toBelow (by simp)
  have hL := hL.below hx_
  have hB := hx_
  have hE_p1 := hC_
  refine wl_q (q_move rfl rfl) rfl rfl (by decide) ?_
  refine wl_q (q_extract rfl rfl rfl) rfl rfl (by decide) ?_
  refine wl_q (q_extract rfl rfl rfl) rfl rfl (by decide) ?_
  refine wl_alloc rfl rfl rfl (by decide) Zr25 (fun b2 => ?_)
  refine wl_store (i := 0) rfl rfl rfl rfl rfl rfl Sz25 rfl rfl (by simp) (by simp [Value.oneCell']) (by first | (simp only [List.take_succ_cons, List.take_zero, List.take_nil, List.drop_succ_cons, List.drop_zero, List.drop_nil, List.nil_append, List.cons_append, List.append_nil, List.length_cons, List.length_nil, Nat.reduceAdd, Nat.zero_add]; rfl) | rfl) (by first | (simp only [List.set_cons_zero, List.set_cons_succ]; rfl) | rfl) ?_
  refine wl_q (q_assign rfl rfl) rfl rfl (by decide) ?_
  refine wl_nil ?_
  refine fq_then ?_
  refine wc_seq ?_
  refine wc_region ?_
  refine wl_callK (ι := Gh) (fun i => .tuple #[.agg #[.bool false, .bool false, .int .i64 0, .int .u64 0, .slice i.1 [].length i.2], .int .i64 11]) (fun i w w' => RowE w' i []) rfl rfl rfl (by decide) En11 rfl (fun w1 hw1 => parseE (m := false) (g := false) (c := 0) (b := 0) (L := []) (err := 11) ex2_tick w1 (hL.below (hw1.toBelow (by simp)))) (fun p2 wa_ w_3 _ Hn_ _ hC_ => ?_)
  have hx_ := Hn_.toBelow (by simp)
  have fb_b2 : Blk w_3 b2 _ _ := Hn_.get (i := 0) rfl
  have hL := hL.below hx_
  have hE_p1 := hE_p1.below hx_
  have hB := hB.next hx_
  have hE_p2 := hC_
  refine wl_q (q_move rfl rfl) rfl rfl (by decide) ?_
  refine wl_q (q_extract rfl rfl rfl) rfl rfl (by decide) ?_
  refine wl_q (q_extract rfl rfl rfl) rfl rfl (by decide) ?_
  refine wl_alloc rfl rfl rfl (by decide) Zr25 (fun b4 => ?_)
  refine wl_store (i := 0) rfl rfl rfl rfl rfl rfl Sz25 rfl rfl (by simp) (by simp [Value.oneCell']) (by first | (simp only [List.take_succ_cons, List.take_zero, List.take_nil, List.drop_succ_cons, List.drop_zero, List.drop_nil, List.nil_append, List.cons_append, List.append_nil, List.length_cons, List.length_nil, Nat.reduceAdd, Nat.zero_add]; rfl) | rfl) (by first | (simp only [List.set_cons_zero, List.set_cons_succ]; rfl) | rfl) ?_
  refine wl_q (q_assign rfl rfl) rfl rfl (by decide) ?_
  refine wl_nil ?_
  refine fq_then ?_
  refine wc_seq ?_
  obtain ⟨ad1, hA1, hr1⟩ := hE_p1.at (i := 0) (e := ⟨1, 0, 3⟩) rfl
  refine wc_region ?_
  refine wl_q (q_move rfl rfl) rfl rfl (by decide) ?_
  refine wl_q (OpQ.to (q_bin rfl rfl rfl rfl) (congrArg Value.bool (by rfl))) rfl rfl (by decide) ?_
  refine wl_q (q_move rfl rfl) rfl rfl (by decide) ?_
  refine wl_want (b := true) (q_fa (o1 := 0) rfl rfl Fo25_0 rfl) rfl rfl rfl rfl (by decide) ?_
  refine wl_want (b := true) (q_load rfl rfl Mn4 (reads_blk (by simp) fb_b2 rfl)) rfl rfl rfl rfl (by decide) ?_
  refine wl_q (q_pick rfl rfl rfl) rfl rfl (by decide) ?_
  refine wl_q (q_move rfl rfl) rfl rfl (by decide) ?_
  refine wl_want (b := true) (q_fa (o1 := 1) rfl rfl Fo25_1 rfl) rfl rfl rfl rfl (by decide) ?_
  refine wl_want (b := true) (q_load rfl rfl Mn4 (reads_blk (by simp) fb_b2 rfl)) rfl rfl rfl rfl (by decide) ?_
  refine wl_want (b := true) (q_not rfl rfl) rfl rfl rfl rfl (by decide) ?_
  refine wl_q (q_pick rfl rfl rfl) rfl rfl (by decide) ?_
  refine wl_q (q_move rfl rfl) rfl rfl (by decide) ?_
  refine wl_want (b := true) (q_fa (o1 := 4) rfl rfl Fo25_4 rfl) rfl rfl rfl rfl (by decide) ?_
  refine wl_want (b := true) (q_load rfl rfl Mn23 (reads_blk (by simp) fb_b2 rfl)) rfl rfl rfl rfl (by decide) ?_
  refine wl_want (b := true) (q_len rfl rfl Tryz.underlying23) rfl rfl rfl rfl (by decide) ?_
  refine wl_want (b := true) (OpQ.to (q_bin rfl rfl rfl rfl) (congrArg Value.bool (by rfl))) rfl rfl rfl rfl (by decide) ?_
  refine wl_q (q_pick rfl rfl rfl) rfl rfl (by decide) ?_
  refine wl_q (q_move rfl rfl) rfl rfl (by decide) ?_
  refine wl_want (b := true) (q_fa (o1 := 4) rfl rfl Fo25_4 rfl) rfl rfl rfl rfl (by decide) ?_
  refine wl_want (b := true) (q_load rfl rfl Mn23 (reads_blk (by simp) fb_b2 rfl)) rfl rfl rfl rfl (by decide) ?_
  refine wl_want (b := true) (q_indexO rfl rfl hA1 rfl Tryz.underlying23 Sz49 (by decide) (by decide)) rfl rfl rfl rfl (by decide) ?_
  refine wl_want (b := true) (q_loadA rfl rfl Mn49 Sz49 rfl (reads_old (cs := [.int .i64 1, .int .i64 0, .int .i64 3]) (by simp) hr1)) rfl rfl rfl rfl (by decide) ?_
  refine wl_want (b := true) (q_build rfl rfl (built_of Zr49 Pl49 (by simp only [fillL, List.map_cons, List.map_nil, Value.cells, List.getElem?_cons_zero, List.getElem?_cons_succ, List.length_cons, List.length_nil, Nat.reduceAdd, Nat.reduceLeDiff, Nat.le_refl, and_self, and_true, true_and, if_true, Nat.zero_add, spl, List.take_succ_cons, List.take_zero, List.take_nil, List.drop_succ_cons, List.drop_zero, List.drop_nil, List.nil_append, List.cons_append, List.append_nil] <;> rfl))) rfl rfl rfl rfl (by decide) ?_
  refine wl_want (b := true) (OpQ.to (q_eqAgg (c := true) rfl (.inl rfl) rfl rfl (by kernel_rfl) (fun w1 => eq49 w1 _ _ _ _ _ _)) rfl) rfl rfl rfl rfl (by decide) ?_
  refine wl_q (q_pick rfl rfl rfl) rfl rfl (by decide) ?_
  refine wl_q (q_move rfl rfl) rfl rfl (by decide) ?_
  refine wl_want (b := true) (q_move rfl rfl) rfl rfl rfl rfl (by decide) ?_
  refine wl_want (b := true) (OpQ.to (q_bin rfl rfl rfl rfl) (congrArg Value.bool (by rfl))) rfl rfl rfl rfl (by decide) ?_
  refine wl_q (q_pick rfl rfl rfl) rfl rfl (by decide) ?_
  refine wl_q (q_move rfl rfl) rfl rfl (by decide) ?_
  refine wl_want (b := true) (q_loadA rfl rfl Mn25 Sz25 rfl (reads_blkA (by simp) fb_b2)) rfl rfl rfl rfl (by decide) ?_
  refine wl_want (b := true) (q_call rfl En8 rfl (fun w1 hw1 => put_calls true false 0 0 p1 [⟨1, 0, 3⟩] w1 (hL.below (hw1.toBelow (by simp))) (hE_p1.below (hw1.toBelow (by simp))) (by unfold i64r; decide) (by decide) (by decide) (by unfold i64r; decide))) rfl rfl rfl rfl (by decide) ?_
  refine wl_want (b := true) (q_eqlStr (c := true) rfl (.inl ⟨rfl, show ((putS true false 0 0 [⟨1, 0, 3⟩]).toList == ex1.toList) = true from by rw [ex1_put]; exact beq_self_eq_true _⟩) rfl rfl (fun w => rfl)) rfl rfl rfl rfl (by decide) ?_
  refine wl_q (q_pick rfl rfl rfl) rfl rfl (by decide) ?_
  refine wl_q (q_move rfl rfl) rfl rfl (by decide) ?_
  refine wl_want (b := true) (q_call rfl En15 rfl (fun w1 hw1 => show_nil w1)) rfl rfl rfl rfl (by decide) ?_
  refine wl_want (b := true) (q_eqlStr (c := true) rfl (.inl ⟨rfl, by simp⟩) rfl rfl (fun w => rfl)) rfl rfl rfl rfl (by decide) ?_
  refine wl_q (q_pick rfl rfl rfl) rfl rfl (by decide) ?_
  refine wl_q (q_assign rfl rfl) rfl rfl (by decide) ?_
  refine wl_nil ?_
  refine fq_then ?_
  refine wc_ret ?_
  refine fq_ret1 rfl rfl (fun w1 H => ?_)
  exact ⟨rfl, (by first | exact hB.next (H.toBelow (by simp)) | exact H.toBelow (by simp))⟩
end Go.Proofs.YtglgipggefpoiaaGreatDoor.SF
end
section
namespace Go.Proofs.YtglgipggefpoiaaGreatDoor.SF
open Go.RowKit Go.Sx Go.Proofs.YtglgipggefpoiaaGreatDoor.PAll Go.Proofs.YtglgipggefpoiaaGreatDoorW.PrintWords Go.Proofs.YtglgipggefpoiaaGreatDoorW.PrintLast Go.Proofs.YtglgipggefpoiaaGreatDoorW.PrintMore
set_option linter.unusedVariables false
set_option linter.unusedSimpArgs false
set_option maxRecDepth 100000
set_option maxHeartbeats 1000000 in
theorem puts_law (m g : Bool) (c : Int) (b : Nat) (q : Gh) (l : List S49) (w : World) (hr : RowE w q l) (hc : i64r c) (hb : b < 18446744073709551616) (he : ∀ e ∈ l, i64r e.f1 ∧ i64r e.f2) (hL : Lw w) : Calls Tryz.prog 3 #[.agg #[.bool m, .bool g, .int .i64 c, .int .u64 b, .slice q.1 l.length q.2]] w fun e w' => e = .returned (.bool true) ∧ Below w.heap.size w w' := by
  refine enter (w0 := w) (hp := [old w]) (env := [(0, .agg #[.bool m, .bool g, .int .i64 c, .int .u64 b, .slice q.1 l.length q.2])]) Tryz.func3 rfl 17 rfl (by simp) rfl (HeapOK.start _) ?_
  refine wc_seq ?_
  refine wc_region ?_
  refine wl_box rfl rfl rfl (by decide) rfl rfl (fun b1 => ?_)
  refine wl_q (q_assign rfl rfl) rfl rfl (by decide) ?_
  refine wl_nil ?_
  refine fq_then ?_
  refine wc_seq ?_
  refine wc_region ?_
  refine wl_q (q_call rfl En7 rfl (fun w1 hw1 => awake_calls w1 (hL.below (hw1.toBelow (by simp))))) rfl rfl (by decide) ?_
  refine wl_q (q_assign rfl rfl) rfl rfl (by decide) ?_
  refine wl_nil ?_
  refine fq_then ?_
  refine wc_seq ?_
  refine wc_seq ?_
  refine wc_region ?_
  refine wl_q (q_move rfl rfl) rfl rfl (by decide) ?_
  refine wl_q (q_not rfl rfl) rfl rfl (by decide) ?_
  refine wl_nil ?_
  refine fq_then ?_
  refine wc_false rfl ?_
  refine wc_skip ?_
  refine fq_then ?_
  refine wc_seq ?_
  refine wc_seq ?_
  refine wc_region ?_
  refine wl_q (q_fa (o1 := 4) rfl rfl Fo25_4 rfl) rfl rfl (by decide) ?_
  refine wl_q (q_load rfl rfl Mn23 (reads1 (i := 0) rfl rfl)) rfl rfl (by decide) ?_
  refine wl_q (q_len rfl rfl Tryz.underlying23) rfl rfl (by decide) ?_
  refine wl_q (q_bin rfl rfl rfl rfl) rfl rfl (by decide) ?_
  refine wl_nil ?_
  refine fq_then ?_
  refine wc_cond rfl (fun h10 => ?_) (fun h10 => ?_)
  · skip
    have q10 := h10
    try simp only [decide_eq_true_eq, decide_eq_false_iff_not, beq_iff_eq, beq_eq_false_iff_ne, bne_iff_ne, ne_eq, bne_eq_false_iff_eq, Int.not_lt, Int.not_le] at q10
    refine wc_seq ?_
    refine wc_region ?_
    refine wl_q (q_assign rfl rfl) rfl rfl (by decide) ?_
    refine wl_nil ?_
    refine fq_then ?_
    refine wc_ret ?_
    refine fq_then_ret ?_
    refine fq_ret1 rfl rfl (fun w1 H => ?_)
    exact ⟨rfl, (by first | exact hB.next (H.toBelow (by simp)) | exact H.toBelow (by simp))⟩
  · skip
    have q10 := h10
    try simp only [decide_eq_true_eq, decide_eq_false_iff_not, beq_iff_eq, beq_eq_false_iff_ne, bne_iff_ne, ne_eq, bne_eq_false_iff_eq, Int.not_lt, Int.not_le] at q10
    refine wc_skip ?_
    refine fq_then ?_
    refine wc_seq ?_
    refine wc_any Fol (any_drawG (ι := Gh) 7 0 [(3, fun X => [Sx.Item.own 0 45 3 (.slice (X 3).1 l.length (X 3).2) l.length ((l.map to45).flatMap c45)])] [⟨[], [], []⟩, ⟨[], [], []⟩, ⟨[], [], []⟩, ⟨[], [], []⟩, ⟨[], [3], [3]⟩, ⟨[], [], [3]⟩, ⟨[], [], [3]⟩] (by kernel_rfl) (ChainG.yield [] [] (fun X => q_loadA rfl rfl Mn25 Sz25 rfl (readsAll (i := 0) rfl)) rfl rfl (fun _ => rfl) (fun _ _ => rfl) (fun X Y h0 h => ⟨by first | rfl | simp only [h0], by first | rfl | simp only [h0]⟩) (ChainG.yield [] [] (fun X => q_call rfl En8 rfl (fun w1 hw1 => put_calls m g c b q l w1 (hL.below (hw1.toBelow (by simp))) (hr.below (hw1.toBelow (by simp))) hc hb (by omega) he)) rfl rfl (fun _ => rfl) (fun _ _ => rfl) (fun X Y h0 h => ⟨by first | rfl | simp only [h0], by first | rfl | simp only [h0]⟩) (ChainG.yield [] [] (fun X => q_loadA rfl rfl Mn25 Sz25 rfl (readsAll (i := 0) rfl)) rfl rfl (fun _ => rfl) (fun _ _ => rfl) (fun X Y h0 h => ⟨by first | rfl | simp only [h0], by first | rfl | simp only [h0]⟩) (ChainG.ope (fun (X : Nat → Gh) => .agg #[.bool m, .bool g, .int .i64 c, .int .u64 b, .slice (X 3).1 l.length (X 3).2]) [] [] (fun X => oe_call rfl En10 rfl (fun R w1 hw1 => (of_calls m g c b q l w1 (hr.below (hw1.toBelow (by simp))) (by omega)).mono (fun e w' ⟨i, h1, h2⟩ => ⟨i, h1, hw1.lift1 h2⟩))) rfl rfl (fun X Y h0 h => ⟨by first | rfl | (show (.agg #[.bool m, .bool g, .int .i64 c, .int .u64 b, .slice (X 3).1 l.length (X 3).2] : Value) = .agg #[.bool m, .bool g, .int .i64 c, .int .u64 b, .slice (Y 3).1 l.length (Y 3).2]; simp only [h0]), by first | rfl | (show ([Sx.Item.own 0 45 3 (.slice (X 3).1 l.length (X 3).2) l.length ((l.map to45).flatMap c45)] : List Sx.Item) = [Sx.Item.own 0 45 3 (.slice (Y 3).1 l.length (Y 3).2) l.length ((l.map to45).flatMap c45)]; simp only [h0])⟩) (ChainG.yield [3] [3] (fun X => q_call rfl En9 rfl (fun w1 hw1 => rput_calls m g (q := ((X 3).1, (X 3).2)) w1 (own45 (hw1.get (i := 0) rfl) (by omega)) hc hb (by omega) he)) rfl rfl (fun _ => rfl) (fun _ _ => rfl) (fun X Y h0 h => ⟨by first | rfl | simp only [h0, h 3 (by decide)], by first | rfl | simp only [h0, h 3 (by decide)]⟩) (ChainG.yield [] [3] (fun X => q_eqlStr (c := true) rfl (.inl ⟨rfl, by simp⟩) rfl rfl (fun w => rfl)) rfl rfl (fun _ => rfl) (fun _ _ => rfl) (fun X Y h0 h => ⟨by first | rfl | simp only [h0, h 3 (by decide)], by first | rfl | simp only [h0, h 3 (by decide)]⟩) (ChainG.yield [] [3] (fun X => q_assign rfl rfl) rfl rfl (fun _ => rfl) (fun _ _ => rfl) (fun X Y h0 h => ⟨by first | rfl | simp only [h0, h 3 (by decide)], by first | rfl | simp only [h0, h 3 (by decide)]⟩) (ChainG.nil _ _)))))))) rfl rfl (fun X => [_, _, _]) (fun _ => rfl) (fun X => ?_))
    generalize X 3 = og
    refine wl_nil ?_
    refine fq_then ?_
    refine wc_ret ?_
    refine fq_ret1 rfl rfl (fun w1 H => ?_)
    exact ⟨rfl, (by first | exact hB.next (H.toBelow (by simp)) | exact H.toBelow (by simp))⟩
end Go.Proofs.YtglgipggefpoiaaGreatDoor.SF
end
section
namespace Go.Proofs.YtglgipggefpoiaaGreatDoor.Op
open Go.RowKit Go.Proofs.YtglgipggefpoiaaGreatDoorW.PrintWords
open Go.ChangeShapes Go.WideShapes
structure Opens {α : Type} (K : Kd α) (P : Program) (t : TypeId) (ok : α → Prop) : Prop where
  sz : P.cellsOf t = K.sz
  op : ∀ {H : Type} {enc : TypeId × Value → H} {w : World} {base : Nat} {spare : Nat → Bool} {held : Bool} {fuel : Nat} {cs : List Value} {x : DataW H × List MemPlace},
    DataW.trod enc P w base spare held fuel t cs = some x → ∃ a, K.K w a cs ∧ ok a
theorem Opens.int {P : Program} {t : TypeId} (k : IntKind) (ht : P.underlying t = some (.int k)) (hc : P.cellsOf t = 1) : Opens (Kd.int k) P t (fun n => (Lit.int k n).wf = true) :=
  ⟨hc, fun h => by obtain ⟨n, rfl, _, hw⟩ := DataW.trod_int ht h; exact ⟨n, rfl, hw⟩⟩
theorem Opens.bool {P : Program} {t : TypeId} (ht : P.underlying t = some .bool) (hc : P.cellsOf t = 1) : Opens Kd.bool P t (fun _ => True) :=
  ⟨hc, fun h => by obtain ⟨b, rfl, _⟩ := DataW.trod_bool ht h; exact ⟨b, rfl, trivial⟩⟩
theorem Opens.string {P : Program} {t : TypeId} (ht : P.underlying t = some .string) (hc : P.cellsOf t = 1) : Opens Kd.string P t (fun s => s.size ≤ maxLen) :=
  ⟨hc, fun h => by obtain ⟨s, rfl, _, hw⟩ := DataW.trod_string ht h; exact ⟨s, rfl, hw⟩⟩
theorem cells_at {w : World} {base : Nat} {a : Addr} {n : Nat} {cs : List Value} (h : w.cells? base a n = some cs) : cs.length = n ∧ ∀ i u, cs[i]? = some u → w.cell? (a.add i) = some u := by
  obtain ⟨_, hl, hc⟩ := World.cells?_some h
  refine ⟨hl, fun i u hu => ?_⟩
  have hi : i < n := by have := (List.getElem?_eq_some_iff.1 hu).1; omega
  rw [hc i hi, hu]
theorem Opens.slice {α : Type} {K : Kd α} {P : Program} {t e : TypeId} {ok : α → Prop} (ht : P.underlying t = some (.slice e)) (hc : P.cellsOf t = 1) (h : Opens K P e ok) :
    Opens (Kd.slice e K) P t (fun xs => xs.length ≤ maxLen ∧ ∀ x ∈ xs, ok x) := by
  refine ⟨hc, fun {H enc w base spare held fuel cs x} hx => ?_⟩
  rcases DataW.trod_slice ht hx with ⟨rfl, _⟩ | ⟨a, len, cap, elems, rest, n, _, rfl, _, _, hl, hm, hlen, hel, _, _⟩
  · exact ⟨[], ⟨none, 0, rfl, Nat.le_refl _, rfl, by simp, fun h0 => absurd h0 (by simp)⟩, by simp, by simp⟩
  · have each : ∀ i, i < len → ∃ a', ok a' ∧ ∃ cs, cs.length = K.sz ∧ K.K w a' cs ∧ ∀ j u, cs[j]? = some u → w.cell? (a.add (i * K.sz + j)) = some u := by
      intro i hi
      have h1 := hel i hi
      rw [List.getElem?_eq_getElem (by omega), Option.bind_eq_some_iff] at h1
      obtain ⟨cs', hcs, hy⟩ := h1
      obtain ⟨a', hk, ho⟩ := h.op hy
      obtain ⟨hlc, hcell⟩ := cells_at hcs
      refine ⟨a', ho, cs', by rw [hlc, h.sz], hk, fun j u hu => ?_⟩
      have := hcell j u hu
      rwa [h.sz, Addr.add_add] at this
    have pick : ∀ m, m ≤ len → ∃ xs : List α, xs.length = m ∧ (∀ x ∈ xs, ok x) ∧ ∀ i p, xs[i]? = some p → ∃ cs, cs.length = K.sz ∧ K.K w p cs ∧ ∀ j u, cs[j]? = some u → w.cell? (a.add (i * K.sz + j)) = some u := by
      intro m
      induction m with
      | zero => intro _; exact ⟨[], rfl, by simp, by simp⟩
      | succ m ih =>
        intro hm'
        obtain ⟨xs, hxl, hxo, hxc⟩ := ih (by omega)
        obtain ⟨a', ho, hcs⟩ := each m (by omega)
        refine ⟨xs ++ [a'], by simp [hxl], fun y hy => ?_, fun i p hp => ?_⟩
        · rcases List.mem_append.1 hy with hy | hy
          · exact hxo y hy
          · rw [List.mem_singleton.1 hy]; exact ho
        · by_cases hi : i < m
          · rw [List.getElem?_append_left (by omega)] at hp
            exact hxc i p hp
          · have : i = m := by
              have := (List.getElem?_eq_some_iff.1 hp).1
              simp [hxl] at this; omega
            subst this
            rw [List.getElem?_append_right (by omega), hxl] at hp
            simp at hp
            subst hp
            exact hcs
    obtain ⟨xs, hxl, hxo, hxc⟩ := pick len (Nat.le_refl _)
    refine ⟨xs, ⟨some a, cap, by rw [hxl], by omega, rfl, by unfold maxLen at hm; omega, fun _ => ⟨a, rfl, hxc⟩⟩, by omega, hxo⟩
end Go.Proofs.YtglgipggefpoiaaGreatDoor.Op
end
section
namespace Go.Proofs.YtglgipggefpoiaaGreatDoor.PAll
open Go.RowKit Go.Proofs.YtglgipggefpoiaaGreatDoorW.PrintWords Go.Proofs.YtglgipggefpoiaaGreatDoorW.PrintLast Go.Proofs.YtglgipggefpoiaaGreatDoorW.PrintMore
open Go.ChangeShapes Go.WideShapes
set_option linter.unusedVariables false
set_option linter.unusedSimpArgs false
set_option maxRecDepth 100000
theorem i64_wf {x : Int} (h : (Lit.int .i64 x).wf = true) : SF.i64r x := by
  have : -9223372036854775808 ≤ x ∧ x ≤ 9223372036854775807 := by simpa [Lit.wf, IntKind.min, IntKind.max, IntKind.signed, IntKind.bits] using h
  exact this
theorem u64_nat {x : Int} (h : (Lit.int .u64 x).wf = true) : ∃ b : Nat, x = b ∧ b < 18446744073709551616 := by
  have : 0 ≤ x ∧ x ≤ 18446744073709551615 := by simpa [Lit.wf, IntKind.min, IntKind.max, IntKind.signed, IntKind.bits] using h
  exact ⟨x.toNat, by omega, by omega⟩
theorem opens49 : Op.Opens k49 Tryz.prog 49 (fun e => SF.i64r e.f1 ∧ SF.i64r e.f2) := by
  refine ⟨by kernel_rfl, fun {H enc w base spare held fuel cs x} hx => ?_⟩
  obtain ⟨xs, n, _, _, hl, hlen, hf⟩ := DataW.trod_struct Tryz.underlying49 hx
  have hc3 : Tryz.prog.cellsOf 3 = 1 := by kernel_rfl
  have hc49 : Tryz.prog.cellsOf 49 = 3 := by kernel_rfl
  rw [hc49] at hl
  match cs, hl, xs, hlen with
  | [u, v, y], _, [x0, x1, x2], _ =>
    have f0 : DataW.trod enc Tryz.prog w base spare held n 3 (([u, v, y].drop 0).take (Tryz.prog.cellsOf 3)) = some x0 := hf 0 _ rfl
    have f1 : DataW.trod enc Tryz.prog w base spare held n 3 (([u, v, y].drop 1).take (Tryz.prog.cellsOf 3)) = some x1 := hf 1 _ rfl
    have f2 : DataW.trod enc Tryz.prog w base spare held n 3 (([u, v, y].drop 2).take (Tryz.prog.cellsOf 3)) = some x2 := hf 2 _ rfl
    rw [hc3] at f0 f1 f2
    obtain ⟨a, ea, _, _⟩ := DataW.trod_int Tryz.underlying3 (show DataW.trod enc Tryz.prog w base spare held n 3 [u] = some x0 from f0)
    obtain ⟨b, eb, _, wb⟩ := DataW.trod_int Tryz.underlying3 (show DataW.trod enc Tryz.prog w base spare held n 3 [v] = some x1 from f1)
    obtain ⟨c, ec, _, wc⟩ := DataW.trod_int Tryz.underlying3 (show DataW.trod enc Tryz.prog w base spare held n 3 [y] = some x2 from f2)
    simp only [List.cons.injEq, and_true] at ea eb ec
    subst ea; subst eb; subst ec
    exact ⟨⟨a, b, c⟩, k49_mk w _, i64_wf wb, i64_wf wc⟩
theorem in_open {H : Type} {enc : TypeId × Value → H} {w : World} {base : Nat} {spare : Nat → Bool} {held : Bool} {fuel : Nat} {cs : List Value} {x : DataW H × List MemPlace} (h : DataW.trod enc Tryz.prog w base spare held fuel 25 cs = some x) :
    ∃ (m g : Bool) (c : Int) (b : Nat) (A : Option Addr) (cap : Nat) (l : List S49), cs = [.bool m, .bool g, .int .i64 c, .int .u64 b, .slice A l.length cap] ∧ l.length ≤ cap ∧ Kd.C k49 w A l.length l ∧ SF.i64r c ∧ b < 18446744073709551616 ∧ ∀ e ∈ l, SF.i64r e.f1 ∧ SF.i64r e.f2 := by
  obtain ⟨xs, n, _, _, hl, hlen, hf⟩ := DataW.trod_struct Tryz.underlying25 h
  have hc3 : Tryz.prog.cellsOf 3 = 1 := by kernel_rfl
  have hc4 : Tryz.prog.cellsOf 4 = 1 := by kernel_rfl
  have hc22 : Tryz.prog.cellsOf 22 = 1 := by kernel_rfl
  have hc23 : Tryz.prog.cellsOf 23 = 1 := by kernel_rfl
  have hc25 : Tryz.prog.cellsOf 25 = 5 := by kernel_rfl
  rw [hc25] at hl
  match cs, hl, xs, hlen with
  | [u, v, y, z, q], _, [x0, x1, x2, x3, x4], _ =>
    have f0 : DataW.trod enc Tryz.prog w base spare held n 4 (([u, v, y, z, q].drop 0).take (Tryz.prog.cellsOf 4)) = some x0 := hf 0 _ rfl
    have f1 : DataW.trod enc Tryz.prog w base spare held n 4 (([u, v, y, z, q].drop 1).take (Tryz.prog.cellsOf 4)) = some x1 := hf 1 _ rfl
    have f2 : DataW.trod enc Tryz.prog w base spare held n 3 (([u, v, y, z, q].drop 2).take (Tryz.prog.cellsOf 3)) = some x2 := hf 2 _ rfl
    have f3 : DataW.trod enc Tryz.prog w base spare held n 22 (([u, v, y, z, q].drop 3).take (Tryz.prog.cellsOf 22)) = some x3 := hf 3 _ rfl
    have f4 : DataW.trod enc Tryz.prog w base spare held n 23 (([u, v, y, z, q].drop 4).take (Tryz.prog.cellsOf 23)) = some x4 := hf 4 _ rfl
    rw [hc4] at f0 f1
    rw [hc3] at f2
    rw [hc22] at f3
    rw [hc23] at f4
    obtain ⟨m, ea, _⟩ := DataW.trod_bool Tryz.underlying4 (show DataW.trod enc Tryz.prog w base spare held n 4 [u] = some x0 from f0)
    obtain ⟨g, eb, _⟩ := DataW.trod_bool Tryz.underlying4 (show DataW.trod enc Tryz.prog w base spare held n 4 [v] = some x1 from f1)
    obtain ⟨c, ec, _, wc⟩ := DataW.trod_int Tryz.underlying3 (show DataW.trod enc Tryz.prog w base spare held n 3 [y] = some x2 from f2)
    obtain ⟨d, ed, _, wd⟩ := DataW.trod_int Tryz.underlying22 (show DataW.trod enc Tryz.prog w base spare held n 22 [z] = some x3 from f3)
    simp only [List.cons.injEq, and_true] at ea eb ec ed
    subst ea; subst eb; subst ec; subst ed
    obtain ⟨l, ⟨A, cc, ez, hlc, hC⟩, _, hok⟩ := (Op.Opens.slice (K := k49) Tryz.underlying23 hc23 opens49).op (show DataW.trod enc Tryz.prog w base spare held n 23 [q] = some x4 from f4)
    simp only [List.cons.injEq, and_true] at ez
    subst ez
    obtain ⟨b, rfl, hb⟩ := u64_nat wd
    exact ⟨m, g, c, b, A, cc, l, rfl, hlc, hC, i64_wf wc, hb, hok⟩
end Go.Proofs.YtglgipggefpoiaaGreatDoor.PAll
end
section
namespace Go.Proofs.YtglgipggefpoiaaGreatDoor.SF
open Go.ChangeShapes Go.WideShapes Go.RowKit
set_option maxRecDepth 100000
set_option linter.unusedVariables false
theorem returns_shaped_and {H : Type} {enc : TypeId × Value → H} {a : Assume} {C : Checked} {os : Os} {f : FuncId} {fn : Func} {s : ChangeSpec} {conds : List PathCond} {apart fresh handsOn again : Bool} {X : World → Array Value → Prop}
    (hX : ∀ (w w' : World) (args : Array Value), w.heap = w'.heap → X w args → X w' args)
    (own : ownKnob C.prog.godebug = none) (started : os.Started) (noInit : C.prog.inits.idxOf? f = none) (hfn : C.prog.funcs[f]? = some fn)
    (witness : ∃ (w : World) (tape : Tape) (i : Input), w.os = os ∧ (w.forCall tape i).Shaped C.prog ∧ i.vars = [] ∧ Input.okWide C.prog (w.forCall tape i) .any w.heap.size f i ∧
      ((s.pre enc C.prog fn conds apart (w.forCall tape i).memory i.args ∧ X (w.forCall tape i).memory i.args) ∧ sizedMet enc C.prog fn (OpenSpec.ofChange s) apart (w.forCall tape i).memory i.args) ∧ a.holds C.prog (lone (Frame.enter C.prog f i.args .normal) [] (w.forCall tape i)))
    (contract : ∀ (W : World) (base : Nat) (args : Array Value) (ds gs : List (DataW H)) (before : List MemPlace),
      (∀ (j : Nat) t v, fn.params[j]? = some t → args[j]? = some v → Value.okWide C.prog W .any base t v) →
      DataW.Whole enc C.prog fn.params.toList s.vars apart W args.toList ds gs before →
      conds.all (PathCond.test C.prog ⟨fn.params.toList, ds, s.plain.varTypes C.prog, gs⟩) = true →
      (DataW.weightsEach C.prog (fn.params.toList ++ s.plain.varTypes C.prog) (ds ++ gs)).all (· ≤ reachBytes) = true → W.ShapedOpen C.prog → X W args →
      a.holds C.prog (lone (Frame.enter C.prog f args .normal) [] W) →
      Calls C.prog f args W fun e W' => ∃ v, e = .returned v ∧ s.post enc C.prog fn apart fresh handsOn again W args v W') :
    ReturnsInHanded a C os f .any (fun w args => (s.pre enc C.prog fn conds apart w args ∧ X w args) ∧ sizedMet enc C.prog fn (OpenSpec.ofChange s) apart w args) (s.post enc C.prog fn apart fresh handsOn again) := by
  refine returnsInHanded_of_calls own started noInit witness ?_
  intro w tape i _ hsh _ hok hpre hholds
  obtain ⟨_, _, _, fn', hfn', _, _, _, _, hval⟩ := hok
  obtain rfl : fn' = fn := Option.some.inj (hfn'.symm.trans hfn)
  obtain ⟨⟨⟨ds, gs, before, hw, hc⟩, hx⟩, hz⟩ := hpre
  have hw' := DataW.Whole.of_heap (w' := w.forCall tape i) (by rfl) hw
  refine (contract (w.forCall tape i) w.heap.size i.args ds gs before hval hw' hc (hz.weights hw) hsh (hX _ _ _ (by rfl) hx) hholds).mono fun e W' ⟨v, he, hp⟩ => ?_
  subst he
  exact ChangeSpec.post_blind hp
theorem pow_tab {W : World} (h : Lib.VarReads Tryz.prog W "internal/strconv.uint64pow10" Rows.laid_internal_strconv_uint64pow10) : Lib.TabIs Tryz.prog W "internal/strconv.uint64pow10" .u64 Lib.pow10Tab := by
  obtain ⟨g, t, cs, fuel, p, hg, ht, hv, hd⟩ := h
  obtain rfl := Option.some.inj ((show Tryz.prog.globalNamed "internal/strconv.uint64pow10" = some 1 by kernel_rfl).symm.trans hg)
  obtain rfl := Option.some.inj ((show (Tryz.prog.globals[1]?).map (·.type) = some 163 by kernel_rfl).symm.trans ht)
  have e : (Rows.laid_internal_strconv_uint64pow10 : DataW Unit) = Lib.tabData .u64 Lib.pow10Tab := rfl
  rw [e] at hd
  have := Lib.cells_of_tab Tryz.underlying163 (e := 22) (n := 20) (k := .u64) Tryz.underlying22 (by kernel_rfl) (by kernel_rfl) hd
  unfold Lib.TabIs
  rw [hv, ← this]
theorem err_var {W : World} {n nm : String} {d : DataW Unit} (h : Lib.VarReads Tryz.prog W n (.iface nm d)) {g : Nat} (hg0 : Tryz.prog.globalNamed n = some g) (ht0 : (Tryz.prog.globals[g]?).map (·.type) = some 70) : ∃ tp p, W.var? Tryz.prog n = some #[.iface tp p] := by
  obtain ⟨g, t, cs, fuel, p, hg, ht, hv, hd⟩ := h
  obtain rfl := Option.some.inj (hg0.symm.trans hg)
  obtain rfl := Option.some.inj (ht0.symm.trans ht)
  obtain ⟨f1, u, v, hc, _, _⟩ := iface_of_trod Tryz.underlying70 hd
  refine ⟨u, v, ?_⟩
  rw [hv]
  congr 1
  apply Array.ext'
  exact hc
theorem Lw_of {W : World} (h : laidMetH Tryz.prog Rows.scriptPutsRow.laid W) (hs : W.ShapedOpen Tryz.prog) : Lw W := by
  rw [MakeChecks.laidMetH_plain _ _ _ (by kernel_rfl)] at h
  refine ⟨pow_tab (Lib.laidMet.reads h (.tail _ (.tail _ (.head _)))), err_var (Lib.laidMet.reads h (.tail _ (.tail _ (.tail _ (.tail _ (.tail _ (.tail _ (.head _)))))))) (g := 2) (by kernel_rfl) (by kernel_rfl), err_var (Lib.laidMet.reads h (.tail _ (.tail _ (.tail _ (.tail _ (.tail _ (.head _))))))) (g := 3) (by kernel_rfl) (by kernel_rfl), ?_⟩
  exact cell_of_shapedOpen_int (g := 4) (t := 3) (zero := #[.int .i64 0]) hs (of_decide_eq_true (by kernel_rfl)) (by kernel_rfl) rfl (by kernel_rfl) (by kernel_rfl) Tryz.underlying3
end Go.Proofs.YtglgipggefpoiaaGreatDoor.SF
end
section
namespace Go.Proofs.YtglgipggefpoiaaGreatDoor.scriptPuts
open Go.ChangeShapes Go.WideShapes Go.ChangeAt Go.RowKit Go.Proofs.YtglgipggefpoiaaGreatDoorW.PrintWords
open Go.ChangeMaps (open_string shut_string)
set_option linter.unusedVariables false
theorem own : ownKnob Tryz.prog.godebug = none := by kernel_rfl
theorem laidOut : laidOutB Tryz.prog = true := by kernel_rfl
set_option maxRecDepth 100000 in
theorem lifted (os : Os) (started : os.Started) (H : Type) (enc : TypeId × Value → H) :
    ReturnsInHanded {} Tryz.checked os 3 .any (fun w args => (Rows.scriptPutsSpec.pre enc Tryz.prog Tryz.f3 [] false w args ∧ laidMetH Tryz.prog Rows.scriptPutsRow.laid w) ∧ sizedMet enc Tryz.prog Tryz.f3 (OpenSpec.ofChange Rows.scriptPutsSpec) false w args) (Rows.scriptPutsSpec.post enc Tryz.prog Tryz.f3 false true false false) := by
  refine SF.returns_shaped_and (C := Tryz.checked) (X := fun w _ => laidMetH Tryz.prog Rows.scriptPutsRow.laid w) (fun _ _ _ hh h => h.of_heap hh) own started (by kernel_rfl) Tryz.func3
    (ChangeSpec.witness_shaped (enc := enc) (C := Tryz.checked) (os := os) (X := fun w _ => laidMetH Tryz.prog Rows.scriptPutsRow.laid w) false (World.laidAll Tryz.prog os Rows.scriptPutsRow.laid) #[.agg #[.bool false, .bool false, .int .i64 0, .int .u64 0, .slice none 0 0]] 8 (World.laidAll_os _ _ _)
      (World.shaped_of_ZipB (by kernel_rfl) (by kernel_rfl)) (by kernel_rfl) (by kernel_rfl) (by kernel_rfl)
      (by rw [MakeChecks.laidMetH_plain _ _ _ (by kernel_rfl)]; exact laidMet_laidAll _ (by kernel_rfl) (by kernel_rfl))) ?_
  intro W base args ds gs before hval0 hW _ hsz0 hsh hL _
  have hhalf := SF.Lw_of hL hsh
  have hsz : (DataW.weightsEach Tryz.prog (Tryz.f3.params.toList ++ Rows.scriptPutsSpec.plain.varTypes Tryz.prog) (ds ++ gs)).all (· ≤ reachBytes) = true := hsz0
  have hval : ∀ (j : Nat) t v, Tryz.f3.params[j]? = some t → args[j]? = some v → Value.okWide Tryz.prog W .any base t v := hval0
  have hW' := hW
  obtain ⟨p, q, hA0, hV, rfl, hfz, hnd⟩ := hW
  have hA : DataW.TrodAll enc Tryz.prog W 0 (fun _ => true) true Tryz.f3.params.toList args.toList ds p := hA0
  rw [Tryz.params3] at hA hval hsz
  obtain ⟨v0, vs0, d0, ds0, p0, q0, hargs, rfl, rfl, h0, r0⟩ := trodAll_cons hA
  obtain ⟨rfl, rfl, rfl⟩ := trodAll_nil r0
  obtain rfl : args = #[v0] := by cases args; simp_all
  obtain ⟨rfl, rfl⟩ := trodVars_none hV
  obtain ⟨cs0, rfl, hz0⟩ := okWide_struct Tryz.underlying25 (hval 0 25 v0 rfl rfl)
  have k0 := h0
  have lt0 : ∀ x ∈ p0, x.block < W.heap.size := by obtain ⟨m, hm⟩ := k0; exact DataW.trod_lt m _ _ _ hm
  obtain ⟨fu0, hf0⟩ := h0
  obtain ⟨m0, g0, cc0, bb0, A0, c0, l0, e0, hc0, hr0, hw0, hb0, he0⟩ := PAll.in_open hf0
  obtain rfl : cs0 = #[.bool m0, .bool g0, .int .i64 cc0, .int .u64 bb0, .slice A0 l0.length c0] := by simpa [Value.cells, ← Array.toList_inj] using e0
  clear hA0 hval0 hsz0
  obtain ⟨k, hk⟩ := (⟨0, trivial⟩ : ∃ k : Nat, True)
  refine (SF.puts_law m0 g0 cc0 bb0 (A0, c0) l0 W ⟨hc0, hr0⟩ hw0 hb0 he0 hhalf).mono fun e W' ⟨he, bel⟩ => ?_
  subst he
  exact ⟨_, rfl, _, _, _, [], _, [], hW', trodAll_mk1 (shut_bool Tryz.underlying4 _), (trodAll_cons_mk (Below.trod laidOut (by kernel_rfl) (of_decide_eq_true (by kernel_rfl)) k0 bel lt0) trodAll_mk0), rfl, bel.frame _, fun h => by cases h⟩
theorem over : Rows.scriptPutsRow.holds Tryz.pinned (OpenSpec.ofChange Rows.scriptPutsSpec) :=
  OpenClaim.holds_of_wide 3 Tryz.f3 rfl rfl rfl rfl rfl rfl rfl ⟨rfl, rfl, rfl, rfl, rfl⟩ rfl rfl rfl rfl rfl (by kernel_rfl) Tryz.func3 (by kernel_rfl)
    (of_decide_eq_true (by kernel_rfl)) (by unfold Func.isWrapper; first | (rw [if_pos (by decide +kernel)]; kernel_rfl) | (rw [if_neg (by decide +kernel)]; exact ⟨rfl, rfl⟩))
    (fun os started H enc _ => lifted os started H enc)
theorem proved : Rows.ScriptPutsSaid := over
theorem row_tie : Rows.scriptPutsRow.laidByTextAt .later Tryz.pinned [.data, .data, .data, .data, .data, .sentinel, .sentinel, .pinned] true := scriptPuts_row_tie
theorem card : Rows.ScriptPutsCardSaid :=
  Claim7.holds_tied_plain_at .later [] [.data, .data, .data, .data, .data, .sentinel, .sentinel, .pinned] true (true, "e076c508fcb96590fc3f15b846c8372e96745594347af2c941e57ce05269dd9f") true
    proved (fun _ h => by cases h) (by kernel_rfl) (fun _ h => by cases h) row_tie rfl ⟨rfl, rfl⟩ (by kernel_rfl) rfl
    (fun f fn hf hfn => by
      obtain rfl : f = 3 := Option.some.inj ((show Tryz.prog.funcNamed "paternoster/paternosterlaw24.ScriptPuts" = some 3 by kernel_rfl).symm.trans hf) |>.symm
      obtain rfl : fn = Tryz.f3 := (Option.some.inj (Tryz.func3.symm.trans hfn)).symm
      exact ⟨by kernel_rfl, fun j t ht => by
        rw [Tryz.params3] at ht
        have ht' : t ∈ #[25] := Array.mem_of_getElem? ht
        simp only [List.mem_toArray, List.mem_cons, List.not_mem_nil, or_false] at ht'
        rcases ht' with rfl
        · exact (show Tryz.prog.wantsStandIn 25 = false by kernel_rfl)⟩)
    (by kernel_rfl)
#print axioms card
end Go.Proofs.YtglgipggefpoiaaGreatDoor.scriptPuts
namespace Go.Proofs.YtglgipggefpoiaaGreatDoor
theorem scriptPuts_holds : Rows.ScriptPutsCardSaid := scriptPuts.card
end Go.Proofs.YtglgipggefpoiaaGreatDoor
end
