/- Texts of mine, put together (no statement stands here). -/
import Derived.Test.YtglgipggefpoiaaGreatDoorProg
import Derived.Lib.BufferMore
import Derived.Below
import Derived.Deep.Draws
import Derived.Deep.AppendLies
import Derived.Maps.AppendAt
import Derived.OwnWalk
import Derived.Laws.BytesArg
import Derived.Laws.MakeOwn
import Derived.Laws.OwnMore
import Derived.Deep.OwnRows
import Derived.Tactics
import Derived.Lib.ConvBytes
import Derived.Laws.Slices
import Derived.WalkKit
import Derived.KernelRfl
import Derived.RowKit3
import Derived.Deep.LoopGhost
import Derived.Deep.QuietTactic
import Derived.BigQuiet
import Derived.WideLaws
import Derived.Deep.DeepCutAuto
import Derived.Deep.CutBlock
import Derived.Deep.RegionHeld3
import Derived.Laws.Rows
import Derived.Lib.AppendStr
import Derived.ArgAppend
import Derived.Laws.IdiomCopy
import Derived.OrdersHeld
import Derived.Laws.BitsLemmas
import Derived.RowKit
import Derived.Test.YtglgipggefpoiaaGreatDoorCSParses6
import Derived.Test.YtglgipggefpoiaaGreatDoorCSParses7
import Derived.Test.YtglgipggefpoiaaGreatDoorCSParses9
import Derived.Test.YtglgipggefpoiaaGreatDoorCSParses8
import Derived.Lib.ItoaLen
import Derived.Lib.AtoiAllCases
section
namespace Go.Proofs.YtglgipggefpoiaaGreatDoor.PAll
open Go.RowKit Go.Proofs.YtglgipggefpoiaaGreatDoorW.PrintWords Go.Proofs.YtglgipggefpoiaaGreatDoorW.PrintLast Go.Proofs.YtglgipggefpoiaaGreatDoorW.PrintMore
attribute [local go_sem] max2_int min2_int max_two min_two max_three min_three max_four min_four
set_option linter.unusedVariables false
set_option linter.unusedSimpArgs false
def errW : Option Int → Value
  | none => .nilIface
  | some c => .iface 144 (.int .i64 c)
theorem errW_none : errW none = .nilIface := rfl
theorem errW_some (c : Int) : errW (some c) = .iface 144 (.int .i64 c) := rfl
theorem info9 : (Tryz.prog.info? 9).map (fun i => (i.zero, i.size, i.bytes)) = some (some (.string ⟨#[]⟩), 1, 16) := by kernel_rfl
theorem info45 : (Tryz.prog.info? 45).map (fun i => (i.zero, i.size, i.bytes)) = some (some (.agg #[(.int .i64 0), (.int .i64 0), (.int .i64 0)]), 3, 24) := by kernel_rfl
structure S45 where
  f0 : Int
  f1 : Int
  f2 : Int
def z45 : S45 := ⟨(0 : Int), (0 : Int), (0 : Int)⟩
def k45 : Kd S45 := Kd.iso (Kd.pair (Kd.int .i64) (Kd.pair (Kd.int .i64) (Kd.int .i64))) (fun x : S45 => (x.f0, x.f1, x.f2))
theorem k45_open {w : World} {x : S45} {cs : List Value} (h : k45.K w x cs) : cs = [.int .i64 x.f0, .int .i64 x.f1, .int .i64 x.f2] := by
  obtain ⟨_, _, rfl, rfl, ⟨_, _, rfl, rfl, rfl⟩⟩ := h
  exact rfl
theorem k45_mk (w : World) (x : S45)  : k45.K w x [.int .i64 x.f0, .int .i64 x.f1, .int .i64 x.f2] := ⟨[.int .i64 x.f0], [.int .i64 x.f1, .int .i64 x.f2], rfl, rfl, ⟨[.int .i64 x.f1], [.int .i64 x.f2], rfl, rfl, rfl⟩⟩
theorem k45_mkM (w : World) (base : Nat) (ok : Nat → Prop) (x : S45)  : k45.M w base ok x [.int .i64 x.f0, .int .i64 x.f1, .int .i64 x.f2] := ⟨[.int .i64 x.f0], [.int .i64 x.f1, .int .i64 x.f2], rfl, rfl, ⟨[.int .i64 x.f1], [.int .i64 x.f2], rfl, rfl, rfl⟩⟩
def rd_T45 (xs : List S45) (i : Int) : S45 := xs.getD i.toNat z45
theorem at_T45 {w : World} {A : Option Addr} {n : Nat} {xs : List S45} (h : Kd.C k45 w A n xs) (i : Int) (h0 : 0 ≤ i) (h1 : i < n) : ∃ ad , A = some ad ∧ w.cell? (ad.add (i.toNat * 3)) = some (.int .i64 (rd_T45 xs i).f0) ∧ w.cell? ⟨(ad.add (i.toNat * 3)).block, (ad.add (i.toNat * 3)).off + 1, none⟩ = some (.int .i64 (rd_T45 xs i).f1) ∧ w.cell? ⟨(ad.add (i.toNat * 3)).block, (ad.add (i.toNat * 3)).off + 2, none⟩ = some (.int .i64 (rd_T45 xs i).f2) := by
  obtain ⟨ad, c, e, _, hK, hc0⟩ := Kd.C_get h z45 i h0 h1
  have hc : ∀ j u, c[j]? = some u → w.cell? (ad.add (i.toNat * 3 + j)) = some u := hc0
  obtain rfl := k45_open hK
  exact ⟨ad, e, hc 0 _ rfl, by rw [← add_field _ _ 1 (by omega)]; exact hc 1 _ rfl, by rw [← add_field _ _ 2 (by omega)]; exact hc 2 _ rfl⟩
structure S49 where
  f0 : Int
  f1 : Int
  f2 : Int
def z49 : S49 := ⟨(0 : Int), (0 : Int), (0 : Int)⟩
def k49 : Kd S49 := Kd.iso (Kd.pair (Kd.int .i64) (Kd.pair (Kd.int .i64) (Kd.int .i64))) (fun x : S49 => (x.f0, x.f1, x.f2))
theorem k49_open {w : World} {x : S49} {cs : List Value} (h : k49.K w x cs) : cs = [.int .i64 x.f0, .int .i64 x.f1, .int .i64 x.f2] := by
  obtain ⟨_, _, rfl, rfl, ⟨_, _, rfl, rfl, rfl⟩⟩ := h
  exact rfl
theorem k49_mk (w : World) (x : S49)  : k49.K w x [.int .i64 x.f0, .int .i64 x.f1, .int .i64 x.f2] := ⟨[.int .i64 x.f0], [.int .i64 x.f1, .int .i64 x.f2], rfl, rfl, ⟨[.int .i64 x.f1], [.int .i64 x.f2], rfl, rfl, rfl⟩⟩
end Go.Proofs.YtglgipggefpoiaaGreatDoor.PAll
end
section
namespace Go.Proofs.YtglgipggefpoiaaGreatDoor.PAll
open Go.RowKit Go.Proofs.YtglgipggefpoiaaGreatDoorW.PrintWords Go.Proofs.YtglgipggefpoiaaGreatDoorW.PrintLast Go.Proofs.YtglgipggefpoiaaGreatDoorW.PrintMore
attribute [local go_sem] max2_int min2_int max_two min_two max_three min_three max_four min_four
set_option linter.unusedVariables false
set_option linter.unusedSimpArgs false
def paternosterref24_Kind.f (a0 : Int) : Option (ByteArray × Bool × Bool) := if a0 = 0 then (some ((⟨#[104, 97, 108, 108]⟩ : ByteArray), false, true)) else (if a0 = 1 then (some ((⟨#[99, 97, 108, 108]⟩ : ByteArray), true, true)) else (if a0 = 2 then (some ((⟨#[108, 111, 97, 100]⟩ : ByteArray), true, true)) else (if a0 = 3 then (some ((⟨#[102, 97, 117, 108, 116]⟩ : ByteArray), true, false)) else (if a0 = 4 then (some ((⟨#[114, 101, 115, 101, 116]⟩ : ByteArray), true, false)) else (if a0 = 5 then (some ((⟨#[112, 105, 99, 107]⟩ : ByteArray), true, false)) else (if a0 = 6 then (some ((⟨#[114, 101, 115, 116, 97, 114, 116]⟩ : ByteArray), false, true)) else (some ((⟨#[]⟩ : ByteArray), false, false))))))))
set_option maxHeartbeats 8000000 in
set_option maxRecDepth 100000 in
theorem paternosterref24_Kind.calls (a0 : Int) (r1 : ByteArray) (r2 : Bool) (r3 : Bool) (w : World) (h : paternosterref24_Kind.f a0 = some (r1, r2, r3)) :
    Calls Tryz.prog 14 #[.int .i64 a0] w fun e w' => e = .returned (.tuple #[.string r1, .bool r2, .bool r3]) ∧ Drawn0 w w' := by
  have H : (if a0 = 0 then (some ((⟨#[104, 97, 108, 108]⟩ : ByteArray), false, true)) else (if a0 = 1 then (some ((⟨#[99, 97, 108, 108]⟩ : ByteArray), true, true)) else (if a0 = 2 then (some ((⟨#[108, 111, 97, 100]⟩ : ByteArray), true, true)) else (if a0 = 3 then (some ((⟨#[102, 97, 117, 108, 116]⟩ : ByteArray), true, false)) else (if a0 = 4 then (some ((⟨#[114, 101, 115, 101, 116]⟩ : ByteArray), true, false)) else (if a0 = 5 then (some ((⟨#[112, 105, 99, 107]⟩ : ByteArray), true, false)) else (if a0 = 6 then (some ((⟨#[114, 101, 115, 116, 97, 114, 116]⟩ : ByteArray), false, true)) else (some ((⟨#[]⟩ : ByteArray), false, false))))))))) = some (r1, r2, r3) := h
  clear h
  by_cases c2 : a0 = 0
  · rw [if_pos c2] at H
    have c2b0 : (a0 == 0) = true := beq_iff_eq.mpr c2
    have c2b1 : (a0 != 0) = false := bne_eq_false_iff_eq.mpr c2
    clear c2
    simp only [Option.some.injEq, Prod.mk.injEq] at H
    obtain ⟨rfl, rfl, rfl⟩ := H
    go_enter Tryz.func14, Tryz.ntmps14
    go_wp2
    go_ret3
    exact ⟨by first | rfl | (simp; done) | (simp [*]; done), by repeat (first | exact Drawn0.refl _ | apply Drawn0.step)⟩
  · rw [if_neg c2] at H
    have c2b0 : (a0 == 0) = false := beq_eq_false_iff_ne.mpr c2
    have c2b1 : (a0 != 0) = true := bne_iff_ne.mpr c2
    by_cases c3 : a0 = 1
    · rw [if_pos c3] at H
      have c3b0 : (a0 == 1) = true := beq_iff_eq.mpr c3
      have c3b1 : (a0 != 1) = false := bne_eq_false_iff_eq.mpr c3
      clear c3
      simp only [Option.some.injEq, Prod.mk.injEq] at H
      obtain ⟨rfl, rfl, rfl⟩ := H
      go_enter Tryz.func14, Tryz.ntmps14
      go_wp2
      go_ret3
      exact ⟨by first | rfl | (simp; done) | (simp [*]; done), by repeat (first | exact Drawn0.refl _ | apply Drawn0.step)⟩
    · rw [if_neg c3] at H
      have c3b0 : (a0 == 1) = false := beq_eq_false_iff_ne.mpr c3
      have c3b1 : (a0 != 1) = true := bne_iff_ne.mpr c3
      by_cases c4 : a0 = 2
      · rw [if_pos c4] at H
        have c4b0 : (a0 == 2) = true := beq_iff_eq.mpr c4
        have c4b1 : (a0 != 2) = false := bne_eq_false_iff_eq.mpr c4
        clear c4
        simp only [Option.some.injEq, Prod.mk.injEq] at H
        obtain ⟨rfl, rfl, rfl⟩ := H
        go_enter Tryz.func14, Tryz.ntmps14
        go_wp2
        go_ret3
        exact ⟨by first | rfl | (simp; done) | (simp [*]; done), by repeat (first | exact Drawn0.refl _ | apply Drawn0.step)⟩
      · rw [if_neg c4] at H
        have c4b0 : (a0 == 2) = false := beq_eq_false_iff_ne.mpr c4
        have c4b1 : (a0 != 2) = true := bne_iff_ne.mpr c4
        by_cases c5 : a0 = 3
        · rw [if_pos c5] at H
          have c5b0 : (a0 == 3) = true := beq_iff_eq.mpr c5
          have c5b1 : (a0 != 3) = false := bne_eq_false_iff_eq.mpr c5
          clear c5
          simp only [Option.some.injEq, Prod.mk.injEq] at H
          obtain ⟨rfl, rfl, rfl⟩ := H
          go_enter Tryz.func14, Tryz.ntmps14
          go_wp2
          go_ret3
          exact ⟨by first | rfl | (simp; done) | (simp [*]; done), by repeat (first | exact Drawn0.refl _ | apply Drawn0.step)⟩
        · rw [if_neg c5] at H
          have c5b0 : (a0 == 3) = false := beq_eq_false_iff_ne.mpr c5
          have c5b1 : (a0 != 3) = true := bne_iff_ne.mpr c5
          by_cases c6 : a0 = 4
          · rw [if_pos c6] at H
            have c6b0 : (a0 == 4) = true := beq_iff_eq.mpr c6
            have c6b1 : (a0 != 4) = false := bne_eq_false_iff_eq.mpr c6
            clear c6
            simp only [Option.some.injEq, Prod.mk.injEq] at H
            obtain ⟨rfl, rfl, rfl⟩ := H
            go_enter Tryz.func14, Tryz.ntmps14
            go_wp2
            go_ret3
            exact ⟨by first | rfl | (simp; done) | (simp [*]; done), by repeat (first | exact Drawn0.refl _ | apply Drawn0.step)⟩
          · rw [if_neg c6] at H
            have c6b0 : (a0 == 4) = false := beq_eq_false_iff_ne.mpr c6
            have c6b1 : (a0 != 4) = true := bne_iff_ne.mpr c6
            by_cases c7 : a0 = 5
            · rw [if_pos c7] at H
              have c7b0 : (a0 == 5) = true := beq_iff_eq.mpr c7
              have c7b1 : (a0 != 5) = false := bne_eq_false_iff_eq.mpr c7
              clear c7
              simp only [Option.some.injEq, Prod.mk.injEq] at H
              obtain ⟨rfl, rfl, rfl⟩ := H
              go_enter Tryz.func14, Tryz.ntmps14
              go_wp2
              go_ret3
              exact ⟨by first | rfl | (simp; done) | (simp [*]; done), by repeat (first | exact Drawn0.refl _ | apply Drawn0.step)⟩
            · rw [if_neg c7] at H
              have c7b0 : (a0 == 5) = false := beq_eq_false_iff_ne.mpr c7
              have c7b1 : (a0 != 5) = true := bne_iff_ne.mpr c7
              by_cases c8 : a0 = 6
              · rw [if_pos c8] at H
                have c8b0 : (a0 == 6) = true := beq_iff_eq.mpr c8
                have c8b1 : (a0 != 6) = false := bne_eq_false_iff_eq.mpr c8
                clear c8
                simp only [Option.some.injEq, Prod.mk.injEq] at H
                obtain ⟨rfl, rfl, rfl⟩ := H
                go_enter Tryz.func14, Tryz.ntmps14
                go_wp2
                go_ret3
                exact ⟨by first | rfl | (simp; done) | (simp [*]; done), by repeat (first | exact Drawn0.refl _ | apply Drawn0.step)⟩
              · rw [if_neg c8] at H
                have c8b0 : (a0 == 6) = false := beq_eq_false_iff_ne.mpr c8
                have c8b1 : (a0 != 6) = true := bne_iff_ne.mpr c8
                simp only [Option.some.injEq, Prod.mk.injEq] at H
                obtain ⟨rfl, rfl, rfl⟩ := H
                go_enter Tryz.func14, Tryz.ntmps14
                go_wp2
                go_ret3
                exact ⟨by first | rfl | (simp; done) | (simp [*]; done), by repeat (first | exact Drawn0.refl _ | apply Drawn0.step)⟩
end Go.Proofs.YtglgipggefpoiaaGreatDoor.PAll
end
section
namespace Go.Proofs.YtglgipggefpoiaaGreatDoor.SF
open Go.RowKit Go.Sx Go.Proofs.YtglgipggefpoiaaGreatDoor.PAll Go.Proofs.YtglgipggefpoiaaGreatDoorW.PrintWords Go.Proofs.YtglgipggefpoiaaGreatDoorW.PrintLast Go.Proofs.YtglgipggefpoiaaGreatDoorW.PrintMore
set_option linter.unusedVariables false
set_option linter.unusedSimpArgs false
set_option maxRecDepth 100000
def formsL : List (Int × Value) := [(0, .agg #[.string ⟨#[104, 97, 108, 108]⟩, .bool false, .bool true]), (1, .agg #[.string ⟨#[99, 97, 108, 108]⟩, .bool true, .bool true]), (2, .agg #[.string ⟨#[108, 111, 97, 100]⟩, .bool true, .bool true]), (3, .agg #[.string ⟨#[102, 97, 117, 108, 116]⟩, .bool true, .bool false]), (4, .agg #[.string ⟨#[114, 101, 115, 101, 116]⟩, .bool true, .bool false]), (5, .agg #[.string ⟨#[112, 105, 99, 107]⟩, .bool true, .bool false]), (6, .agg #[.string ⟨#[114, 101, 115, 116, 97, 114, 116]⟩, .bool false, .bool true])]
def formAt (k : Int) : Option (ByteArray × Bool × Bool) := if k = 0 then some (⟨#[104, 97, 108, 108]⟩, false, true) else if k = 1 then some (⟨#[99, 97, 108, 108]⟩, true, true) else if k = 2 then some (⟨#[108, 111, 97, 100]⟩, true, true) else if k = 3 then some (⟨#[102, 97, 117, 108, 116]⟩, true, false) else if k = 4 then some (⟨#[114, 101, 115, 101, 116]⟩, true, false) else if k = 5 then some (⟨#[112, 105, 99, 107]⟩, true, false) else if k = 6 then some (⟨#[114, 101, 115, 116, 97, 114, 116]⟩, false, true) else none
theorem forms_calls (w : World) : Calls Tryz.prog 19 #[] w fun e w' => ∃ i : Nat, e = .returned (.map (some i)) ∧ HeapOK w [.obj i (mobj .i64 formsL), old w] w' := by
  refine enter (w0 := w) (hp := [old w]) (env := []) Tryz.func19 rfl 10 rfl (by simp) rfl (HeapOK.start _) ?_
  refine wc_seq ?_
  refine wc_region ?_
  refine wl_q (q_assign rfl rfl) rfl rfl (by decide) ?_
  refine wl_nil ?_
  refine fq_then ?_
  refine wc_seq ?_
  refine wc_region ?_
  refine wl_makeMap .i64 rfl rfl rfl (by decide) (fun b1 => ?_)
  refine wl_q (q_build rfl rfl (built_of Zr58 Pl58 (by simp only [fillL, List.map_cons, List.map_nil, Value.cells, List.getElem?_cons_zero, List.getElem?_cons_succ, List.length_cons, List.length_nil, Nat.reduceAdd, Nat.reduceLeDiff, Nat.le_refl, and_self, and_true, true_and, if_true, Nat.zero_add, spl, List.take_succ_cons, List.take_zero, List.take_nil, List.drop_succ_cons, List.drop_zero, List.drop_nil, List.nil_append, List.cons_append, List.append_nil] <;> rfl))) rfl rfl (by decide) ?_
  refine wl_insert (i := 0) rfl rfl rfl rfl rfl rfl Tryz.underlying55 Tryz.underlying3 rfl rfl ?_
  refine wl_q (q_build rfl rfl (built_of Zr58 Pl58 (by simp only [fillL, List.map_cons, List.map_nil, Value.cells, List.getElem?_cons_zero, List.getElem?_cons_succ, List.length_cons, List.length_nil, Nat.reduceAdd, Nat.reduceLeDiff, Nat.le_refl, and_self, and_true, true_and, if_true, Nat.zero_add, spl, List.take_succ_cons, List.take_zero, List.take_nil, List.drop_succ_cons, List.drop_zero, List.drop_nil, List.nil_append, List.cons_append, List.append_nil] <;> rfl))) rfl rfl (by decide) ?_
  refine wl_insert (i := 0) rfl rfl rfl rfl rfl rfl Tryz.underlying55 Tryz.underlying3 rfl rfl ?_
  refine wl_q (q_build rfl rfl (built_of Zr58 Pl58 (by simp only [fillL, List.map_cons, List.map_nil, Value.cells, List.getElem?_cons_zero, List.getElem?_cons_succ, List.length_cons, List.length_nil, Nat.reduceAdd, Nat.reduceLeDiff, Nat.le_refl, and_self, and_true, true_and, if_true, Nat.zero_add, spl, List.take_succ_cons, List.take_zero, List.take_nil, List.drop_succ_cons, List.drop_zero, List.drop_nil, List.nil_append, List.cons_append, List.append_nil] <;> rfl))) rfl rfl (by decide) ?_
  refine wl_insert (i := 0) rfl rfl rfl rfl rfl rfl Tryz.underlying55 Tryz.underlying3 rfl rfl ?_
  refine wl_q (q_build rfl rfl (built_of Zr58 Pl58 (by simp only [fillL, List.map_cons, List.map_nil, Value.cells, List.getElem?_cons_zero, List.getElem?_cons_succ, List.length_cons, List.length_nil, Nat.reduceAdd, Nat.reduceLeDiff, Nat.le_refl, and_self, and_true, true_and, if_true, Nat.zero_add, spl, List.take_succ_cons, List.take_zero, List.take_nil, List.drop_succ_cons, List.drop_zero, List.drop_nil, List.nil_append, List.cons_append, List.append_nil] <;> rfl))) rfl rfl (by decide) ?_
  refine wl_insert (i := 0) rfl rfl rfl rfl rfl rfl Tryz.underlying55 Tryz.underlying3 rfl rfl ?_
  refine wl_q (q_build rfl rfl (built_of Zr58 Pl58 (by simp only [fillL, List.map_cons, List.map_nil, Value.cells, List.getElem?_cons_zero, List.getElem?_cons_succ, List.length_cons, List.length_nil, Nat.reduceAdd, Nat.reduceLeDiff, Nat.le_refl, and_self, and_true, true_and, if_true, Nat.zero_add, spl, List.take_succ_cons, List.take_zero, List.take_nil, List.drop_succ_cons, List.drop_zero, List.drop_nil, List.nil_append, List.cons_append, List.append_nil] <;> rfl))) rfl rfl (by decide) ?_
  refine wl_insert (i := 0) rfl rfl rfl rfl rfl rfl Tryz.underlying55 Tryz.underlying3 rfl rfl ?_
  refine wl_q (q_build rfl rfl (built_of Zr58 Pl58 (by simp only [fillL, List.map_cons, List.map_nil, Value.cells, List.getElem?_cons_zero, List.getElem?_cons_succ, List.length_cons, List.length_nil, Nat.reduceAdd, Nat.reduceLeDiff, Nat.le_refl, and_self, and_true, true_and, if_true, Nat.zero_add, spl, List.take_succ_cons, List.take_zero, List.take_nil, List.drop_succ_cons, List.drop_zero, List.drop_nil, List.nil_append, List.cons_append, List.append_nil] <;> rfl))) rfl rfl (by decide) ?_
  refine wl_insert (i := 0) rfl rfl rfl rfl rfl rfl Tryz.underlying55 Tryz.underlying3 rfl rfl ?_
  refine wl_q (q_build rfl rfl (built_of Zr58 Pl58 (by simp only [fillL, List.map_cons, List.map_nil, Value.cells, List.getElem?_cons_zero, List.getElem?_cons_succ, List.length_cons, List.length_nil, Nat.reduceAdd, Nat.reduceLeDiff, Nat.le_refl, and_self, and_true, true_and, if_true, Nat.zero_add, spl, List.take_succ_cons, List.take_zero, List.take_nil, List.drop_succ_cons, List.drop_zero, List.drop_nil, List.nil_append, List.cons_append, List.append_nil] <;> rfl))) rfl rfl (by decide) ?_
  refine wl_insert (i := 0) rfl rfl rfl rfl rfl rfl Tryz.underlying55 Tryz.underlying3 rfl rfl ?_
  refine wl_q (q_move rfl rfl) rfl rfl (by decide) ?_
  refine wl_q (q_assign rfl rfl) rfl rfl (by decide) ?_
  refine wl_nil ?_
  refine fq_then ?_
  refine wc_ret ?_
  refine fq_ret1 rfl rfl (fun w1 H => ?_)
  exact ⟨b1, rfl, H⟩
end Go.Proofs.YtglgipggefpoiaaGreatDoor.SF
end
section
namespace Go.Proofs.YtglgipggefpoiaaGreatDoor.SF
open Go.RowKit Go.Sx Go.Proofs.YtglgipggefpoiaaGreatDoor.PAll Go.Proofs.YtglgipggefpoiaaGreatDoorW.PrintWords Go.Proofs.YtglgipggefpoiaaGreatDoorW.PrintLast Go.Proofs.YtglgipggefpoiaaGreatDoorW.PrintMore
set_option linter.unusedVariables false
set_option linter.unusedSimpArgs false
set_option maxRecDepth 100000
def rdc (q : Gh) (n : Nat) (bad : Bool) : List Value := [.slice q.1 n q.2, .bool bad]
def StrsG (gw : Nat) (w : World) (A : Option Addr) (ws : List ByteArray) : Prop := ws ≠ [] → ∃ o, A = some ⟨gw, o, none⟩ ∧ ∀ (j : Nat) x, ws[j]? = some x → w.cell? ⟨gw, o + j, none⟩ = some (.string x)
theorem StrsG.below {gw : Nat} {w w' : World} {A : Option Addr} {ws : List ByteArray} (h : StrsG gw w A ws) (hb : Below w.heap.size w w') : StrsG gw w' A ws := fun hne => by
  obtain ⟨o, e, hc⟩ := h hne
  exact ⟨o, e, fun j x hx => by rw [hb.cell (block_lt_of_cell (hc j x hx))]; exact hc j x hx⟩
theorem StrsG.upd {gw b : Nat} {q : Gh} {n : Nat} {bad : Bool} {cs' : List Value} {w w' : World} {A : Option Addr} {ws : List ByteArray} (h : StrsG gw w A ws) (hu : Upd b 65 (rdc q n bad) cs' w w') : StrsG gw w' A ws := fun hne => by
  obtain ⟨o, e, hc⟩ := h hne
  refine ⟨o, e, fun j x hx => ?_⟩
  have h1 := hc j x hx
  exact hu.cell h1 (hu.ne h1 (fun k => by rcases k with _ | _ | k <;> simp [rdc]))
theorem Lw.upd {b : Nat} {q : Gh} {n : Nat} {bad : Bool} {cs' : List Value} {w w' : World} (h : Lw w) (hu : Upd b 65 (rdc q n bad) cs' w w') : Lw w' := by
  have go : ∀ {name : String} {cs : Array Value}, w.var? Tryz.prog name = some cs → cs.size ≠ 2 → w'.var? Tryz.prog name = some cs := fun {name cs} h hn => by
    unfold World.var? at h ⊢
    cases hg : Tryz.prog.globalNamed name with
    | none => rw [hg] at h; cases h
    | some g =>
      rw [hg] at h
      simp only [Option.bind_some] at h ⊢
      cases hc : w.heap[g]? with
      | none => rw [hc] at h; cases h
      | some o =>
        have hne : g ≠ b := by
          rintro rfl
          have h2 := hu.was
          rw [Blk, hc] at h2
          cases h2
          rw [hc] at h
          cases h
          exact hn rfl
        rw [hu.other g (Array.getElem?_eq_some_iff.1 hc).1 hne]
        exact h
  obtain ⟨t1, p1, h1⟩ := h.syn
  obtain ⟨t2, p2, h2⟩ := h.ran
  obtain ⟨m, h3⟩ := h.len
  refine ⟨go h.tab (by simp [Lib.pow10Tab]), ⟨t1, p1, go h1 (by simp)⟩, ⟨t2, p2, go h2 (by simp)⟩, ⟨m, hu.cell h3 (hu.ne h3 (fun k => by rcases k with _ | _ | k <;> simp [rdc]))⟩⟩
theorem next_nil (b : Nat) (q : Gh) (bad : Bool) (w : World) (fb_b : Blk w b (rdc q 0 bad) 65) : Calls Tryz.prog 26 #[.pointer (some ⟨b, 0, none⟩)] w fun e w' => e = .returned (.string ⟨#[]⟩) ∧ Upd b 65 (rdc q 0 bad) (rdc q 0 true) w w' := by
  have hU := Upd.refl fb_b
  refine enter (w0 := w) (hp := [old w]) (env := [(0, .pointer (some ⟨b, 0, none⟩))]) Tryz.func26 rfl 28 rfl (by simp) rfl (HeapOK.start _) ?_
  refine wc_seq ?_
  refine wc_region ?_
  refine wl_q (q_assign rfl rfl) rfl rfl (by decide) ?_
  refine wl_nil ?_
  refine fq_then ?_
  refine wc_seq ?_
  refine wc_seq ?_
  refine wc_region ?_
  refine wl_q (q_move rfl rfl) rfl rfl (by decide) ?_
  refine wl_q (q_nilCheck rfl rfl) rfl rfl (by decide) ?_
  refine wl_q (q_fa (o1 := 0) rfl rfl Fo65_0 rfl) rfl rfl (by decide) ?_
  refine wl_q (q_load rfl rfl Mn54 (reads_blk (by simp) fb_b rfl)) rfl rfl (by decide) ?_
  refine wl_q (q_len rfl rfl Tryz.underlying54) rfl rfl (by decide) ?_
  refine wl_q (OpQ.to (q_bin rfl rfl rfl rfl) (congrArg Value.bool (show (((0 : Nat) : Int) == 0) = true by rfl))) rfl rfl (by decide) ?_
  refine wl_nil ?_
  refine fq_then ?_
  refine wc_true rfl ?_
  refine wc_seq ?_
  refine wc_region ?_
  refine wl_q (q_move rfl rfl) rfl rfl (by decide) ?_
  refine wl_q (q_nilCheck rfl rfl) rfl rfl (by decide) ?_
  refine wl_q (q_fa (o1 := 1) rfl rfl Fo65_1 rfl) rfl rfl (by decide) ?_
  refine wl_storeK fb_b rfl rfl rfl rfl rfl Sz4 rfl rfl (by first | (simp; done) | (simp [Value.oneCell', rdc]; done)) (by simp [Value.oneCell', rdc]) (by first | rfl | (simp only [List.take_succ_cons, List.take_zero, List.take_nil, List.drop_succ_cons, List.drop_zero, List.drop_nil, List.nil_append, List.cons_append, List.append_nil, List.length_cons, List.length_nil, Nat.reduceAdd, Nat.zero_add]; rfl)) (fun wa_1 w_2 Hn_ hu_ => ?_)
  have hx_ := Hn_.toBelow (by simp)
  have fb_b := fb_b.below hx_
  have hU := hU.below_r hx_
  have hU := hU.trans hu_
  have fb_b := hu_.now
  refine wl_nil ?_
  refine fq_then ?_
  refine wc_seq ?_
  refine wc_region ?_
  refine wl_q (q_assign rfl rfl) rfl rfl (by decide) ?_
  refine wl_nil ?_
  refine fq_then ?_
  refine wc_ret ?_
  refine fq_then_ret ?_
  refine fq_ret1 rfl rfl (fun w1 H => ?_)
  exact ⟨rfl, hU.below_r (H.toBelow (by simp))⟩
theorem next_cons {gw : Nat} (b : Nat) (q : Gh) (x : ByteArray) (ws : List ByteArray) (bad : Bool) (w : World) (fb_b : Blk w b (rdc q (ws.length + 1) bad) 65) (hs : StrsG gw w q.1 (x :: ws)) (hc : ws.length + 1 ≤ q.2) : Calls Tryz.prog 26 #[.pointer (some ⟨b, 0, none⟩)] w fun e w' => ∃ i : Gh, e = .returned (.string x) ∧ (StrsG gw w' i.1 ws ∧ ws.length ≤ i.2) ∧ Upd b 65 (rdc q (ws.length + 1) bad) (rdc i ws.length bad) w w' := by
  obtain ⟨o, hA, hcl⟩ := hs (by simp)
  have hx0 : w.cell? ((⟨gw, o, none⟩ : Addr).add ((0 : Int).toNat * 1)) = some (.string x) := by rw [Addr.add_lit]; exact hcl 0 x rfl
  have hU := Upd.refl fb_b
  refine enter (w0 := w) (hp := [old w]) (env := [(0, .pointer (some ⟨b, 0, none⟩))]) Tryz.func26 rfl 28 rfl (by simp) rfl (HeapOK.start _) ?_
  refine wc_seq ?_
  refine wc_region ?_
  refine wl_q (q_assign rfl rfl) rfl rfl (by decide) ?_
  refine wl_nil ?_
  refine fq_then ?_
  refine wc_seq ?_
  refine wc_seq ?_
  refine wc_region ?_
  refine wl_q (q_move rfl rfl) rfl rfl (by decide) ?_
  refine wl_q (q_nilCheck rfl rfl) rfl rfl (by decide) ?_
  refine wl_q (q_fa (o1 := 0) rfl rfl Fo65_0 rfl) rfl rfl (by decide) ?_
  refine wl_q (q_load rfl rfl Mn54 (reads_blk (by simp) fb_b rfl)) rfl rfl (by decide) ?_
  refine wl_q (q_len rfl rfl Tryz.underlying54) rfl rfl (by decide) ?_
  refine wl_q (OpQ.to (q_bin rfl rfl rfl rfl) (congrArg Value.bool (show ((((ws.length + 1 : Nat) : Int)) == 0) = false by rw [beq_eq_false_iff_ne]; omega))) rfl rfl (by decide) ?_
  refine wl_nil ?_
  refine fq_then ?_
  refine wc_false rfl ?_
  refine wc_skip ?_
  refine fq_then ?_
  refine wc_seq ?_
  refine wc_region ?_
  refine wl_q (q_move rfl rfl) rfl rfl (by decide) ?_
  refine wl_q (q_nilCheck rfl rfl) rfl rfl (by decide) ?_
  refine wl_q (q_fa (o1 := 0) rfl rfl Fo65_0 rfl) rfl rfl (by decide) ?_
  refine wl_q (q_load rfl rfl Mn54 (reads_blk (by simp) fb_b rfl)) rfl rfl (by decide) ?_
  refine wl_q (q_indexO rfl rfl hA rfl Tryz.underlying54 Sz9 (by decide) (by omega)) rfl rfl (by decide) ?_
  refine wl_q (q_load rfl rfl Mn9 (reads_old (by simp) (cell_zero hx0))) rfl rfl (by decide) ?_
  refine wl_q (q_assign rfl rfl) rfl rfl (by decide) ?_
  refine wl_nil ?_
  refine fq_then ?_
  refine wc_seq ?_
  refine wc_region ?_
  refine wl_q (q_move rfl rfl) rfl rfl (by decide) ?_
  refine wl_q (q_move rfl rfl) rfl rfl (by decide) ?_
  refine wl_q (q_nilCheck rfl rfl) rfl rfl (by decide) ?_
  refine wl_q (q_fa (o1 := 0) rfl rfl Fo65_0 rfl) rfl rfl (by decide) ?_
  refine wl_q (q_load rfl rfl Mn54 (reads_blk (by simp) fb_b rfl)) rfl rfl (by decide) ?_
  refine wl_q (q_slice_lo rfl rfl rfl Tryz.underlying54 Sz9 (by decide) (by omega)) rfl rfl (by decide) ?_
  refine wl_q (q_nilCheck rfl rfl) rfl rfl (by decide) ?_
  refine wl_q (q_fa (o1 := 0) rfl rfl Fo65_0 rfl) rfl rfl (by decide) ?_
  refine wl_storeK fb_b rfl rfl rfl rfl rfl Sz54 rfl rfl (by first | (simp; done) | (simp [Value.oneCell', rdc]; done)) (by simp [Value.oneCell', rdc]) (by first | rfl | (simp only [List.take_succ_cons, List.take_zero, List.take_nil, List.drop_succ_cons, List.drop_zero, List.drop_nil, List.nil_append, List.cons_append, List.append_nil, List.length_cons, List.length_nil, Nat.reduceAdd, Nat.zero_add]; rfl)) (fun wa_1 w_2 Hn_ hu_ => ?_)
  have hx_ := Hn_.toBelow (by simp)
  have fb_b := fb_b.below hx_
  have hs := hs.below hx_
  have hU := hU.below_r hx_
  have hU := hU.trans hu_
  have fb_b := hu_.now
  have hs := hs.upd hu_
  refine wl_nil ?_
  refine fq_then ?_
  refine wc_seq ?_
  refine wc_region ?_
  refine wl_q (q_move rfl rfl) rfl rfl (by decide) ?_
  refine wl_q (q_assign rfl rfl) rfl rfl (by decide) ?_
  refine wl_nil ?_
  refine fq_then ?_
  refine wc_ret ?_
  refine fq_ret1 rfl rfl (fun w1 H => ?_)
  refine ⟨(if q.2 = (1 : Int).toNat then q.1 else q.1.map (·.add ((1 : Int).toNat * 1)), q.2 - (1 : Int).toNat), rfl, ⟨fun hne => ?_, ?_⟩, hU.below_r (H.toBelow (by simp))⟩
  · have hp : 0 < ws.length := List.length_pos_iff.2 hne
    obtain ⟨o2, e2, hc2⟩ := (hs.below (H.toBelow (by simp))) (by simp)
    rw [if_neg (by show ¬ q.2 = 1; omega), e2]
    refine ⟨o2 + 1, by simp [Addr.add_lit], fun j y hy => ?_⟩
    have := hc2 (j + 1) y (by simpa using hy)
    rwa [show o2 + (j + 1) = o2 + 1 + j by omega] at this
  · show ws.length ≤ q.2 - 1
    omega
end Go.Proofs.YtglgipggefpoiaaGreatDoor.SF
end
section
namespace Go.Proofs.YtglgipggefpoiaaGreatDoor.PAll
open Go.RowKit Go.Proofs.YtglgipggefpoiaaGreatDoorW.PrintWords Go.Proofs.YtglgipggefpoiaaGreatDoorW.PrintLast Go.Proofs.YtglgipggefpoiaaGreatDoorW.PrintMore
attribute [local go_sem] max2_int min2_int max_two min_two max_three min_three max_four min_four
set_option linter.unusedVariables false
set_option linter.unusedSimpArgs false
def script_word.f (a0 : Bool) (a1 : ByteArray) : Option (ByteArray) := if a0 = true then (some a1) else (some (⟨#[110, 111, 110, 101]⟩ : ByteArray))
set_option maxHeartbeats 8000000 in
set_option maxRecDepth 100000 in
theorem script_word.calls (a0 : Bool) (a1 : ByteArray) (r : ByteArray) (w : World) (h : script_word.f a0 a1 = some r) :
    Calls Tryz.prog 16 #[.bool a0, .string a1] w fun e w' => e = .returned (.string r) ∧ Drawn0 w w' := by
  have H : (if a0 = true then (some a1) else (some (⟨#[110, 111, 110, 101]⟩ : ByteArray))) = some r := h
  clear h
  by_cases c3 : a0 = true
  · subst c3
    have H1 : (some a1) = some r := by rw [if_pos rfl] at H; exact H
    clear H
    have H := H1
    clear H1
    obtain rfl := Option.some.inj H
    go_enter Tryz.func16, Tryz.ntmps16
    go_wp2
    go_ret
    exact ⟨by first | rfl | (simp; done) | (simp [*]; done), by repeat (first | exact Drawn0.refl _ | apply Drawn0.step)⟩
  · replace c3 := Bool.eq_false_iff.mpr c3
    subst c3
    have H1 : (some (⟨#[110, 111, 110, 101]⟩ : ByteArray)) = some r := by rw [if_neg (show ¬ (false = true) by decide)] at H; exact H
    clear H
    have H := H1
    clear H1
    obtain rfl := Option.some.inj H
    go_enter Tryz.func16, Tryz.ntmps16
    go_wp2
    go_ret
    exact ⟨by first | rfl | (simp; done) | (simp [*]; done), by repeat (first | exact Drawn0.refl _ | apply Drawn0.step)⟩
end Go.Proofs.YtglgipggefpoiaaGreatDoor.PAll
end
section
namespace Go.Proofs.YtglgipggefpoiaaGreatDoor.SF
open Go.RowKit Go.Sx Go.Proofs.YtglgipggefpoiaaGreatDoor.PAll Go.Proofs.YtglgipggefpoiaaGreatDoorW.PrintWords Go.Proofs.YtglgipggefpoiaaGreatDoorW.PrintLast Go.Proofs.YtglgipggefpoiaaGreatDoorW.PrintMore
set_option linter.unusedVariables false
set_option linter.unusedSimpArgs false
set_option maxRecDepth 100000
def RowE (w : World) (q : Gh) (l : List S49) : Prop := l.length ≤ q.2 ∧ Kd.C k49 w q.1 l.length l
theorem RowE.below {w w' : World} {q : Gh} {l : List S49} (h : RowE w q l) (hb : Below w.heap.size w w') : RowE w' q l := ⟨h.1, Kd.C_below h.2 hb⟩
theorem RowE.at {w : World} {q : Gh} {l : List S49} {i : Nat} {e : S49} (h : RowE w q l) (hi : l[i]? = some e) : ∃ ad, q.1 = some ad ∧ ∀ (j : Nat) (u : Value), ([.int .i64 e.f0, .int .i64 e.f1, .int .i64 e.f2] : List Value)[j]? = some u → w.cell? ((ad.add ((i : Int).toNat * 3)).add j) = some u := by
  have hlt := (List.getElem?_eq_some_iff.1 hi).1
  obtain ⟨ad, c, e1, _, hK, hc0⟩ := Kd.C_get h.2 z49 (i : Int) (by omega) (by omega)
  rw [List.getD_eq_getElem?_getD, Int.toNat_natCast, hi] at hK
  obtain rfl := k49_open hK
  exact ⟨ad, e1, fun j u hu => by rw [Sx.add_add]; exact hc0 j u hu⟩
def i64r (x : Int) : Prop := -9223372036854775808 ≤ x ∧ x ≤ 9223372036854775807
def ibs (x : Int) : ByteArray := ⟨(Lib.itoa x).toArray⟩
def ubs (x : Nat) : ByteArray := ⟨(Lib.decDigits x).toArray⟩
def noneB : ByteArray := ⟨#[110, 111, 110, 101]⟩
def evW (e : S49) : List ByteArray := match formAt e.f0 with
  | none => []
  | some (w, c, n) => w :: ((if c then [ibs e.f1] else []) ++ (if n then [ibs e.f2] else []))
def headW (m g : Bool) (c : Int) (b : Nat) : List ByteArray := [if m then ⟨#[109, 97, 105, 110, 115]⟩ else noneB, if g then ⟨#[103, 101, 110]⟩ else noneB, ibs c, ubs b]
def putW (m g : Bool) (c : Int) (b : Nat) (l : List S49) : List ByteArray := headW m g c b ++ l.flatMap evW
def putS (m g : Bool) (c : Int) (b : Nat) (l : List S49) : ByteArray := ⟨(Lib.join ((putW m g c b l).map (·.data.toList)) [32]).toArray⟩
theorem word_of (b : Bool) (s : ByteArray) (w : World) : Calls Tryz.prog 16 #[.bool b, .string s] w fun e w' => e = .returned (.string (if b then s else noneB)) ∧ Below w.heap.size w w' := by
  cases b
  · exact (script_word.calls false s noneB w rfl).mono (fun e w' ⟨h1, h2⟩ => ⟨h1, h2.below⟩)
  · exact (script_word.calls true s s w rfl).mono (fun e w' ⟨h1, h2⟩ => ⟨h1, h2.below⟩)
theorem find_form (k : Int) : mfind formsL k = (formAt k).map fun x => .agg #[.string x.1, .bool x.2.1, .bool x.2.2] := by
  unfold formsL formAt
  simp only [mfind]
  repeat (split; rfl)
  rfl
theorem evW_len (e : S49) : (evW e).length ≤ 3 := by
  unfold evW
  split
  · simp
  · rename_i w c n h
    cases c <;> cases n <;> simp
theorem evs_len (l : List S49) : (l.flatMap evW).length ≤ 3 * l.length := by
  induction l with
  | nil => simp
  | cons e l ih => rw [List.flatMap_cons, List.length_append, List.length_cons]; have := evW_len e; omega
theorem formAt_len {k : Int} {x : ByteArray × Bool × Bool} (h : formAt k = some x) : x.1.size ≤ 7 := by
  unfold formAt at h
  repeat (split at h; · cases h; decide)
  cases h
theorem u_len {x : Nat} (h : x < 18446744073709551616) : (Lib.decDigits x).length ≤ 20 := by
  rw [Lib.decDigits_length]; exact Lib.nDigits_le20 x h
theorem itoa_len {x : Int} (h : i64r x) : (Lib.itoa x).length ≤ 21 := by
  unfold i64r at h
  unfold Lib.itoa
  split
  · rw [List.length_cons]; have := u_len (x := x.natAbs) (by omega); omega
  · have := u_len (x := x.toNat) (by omega); omega
theorem join_len_le (sep : List UInt8) (n : Nat) (hs : sep.length ≤ 1) : ∀ (l : List (List UInt8)), (∀ x ∈ l, x.length ≤ n) → (Lib.join l sep).length ≤ (n + 1) * l.length
  | [], _ => by simp [Lib.join_nil]
  | x :: l, h => by
    have h1 := h x (by simp)
    have h2 : (Lib.joinTail sep l).length ≤ (n + 1) * l.length := by
      unfold Lib.joinTail
      rw [List.length_flatten, List.map_map]
      have : ∀ (l : List (List UInt8)), (∀ x ∈ l, x.length ≤ n) → (l.map (List.length ∘ (sep ++ ·))).sum ≤ (n + 1) * l.length := by
        intro l
        induction l with
        | nil => simp
        | cons y l ih =>
          intro hy
          have a1 := hy y (by simp)
          have a2 := ih (fun z hz => hy z (by simp [hz]))
          simp only [List.map_cons, List.sum_cons, Function.comp, List.length_append, List.length_cons, Nat.mul_add, Nat.mul_one] at a2 ⊢
          omega
      exact this l (fun y hy => h y (by simp [hy]))
    rw [Lib.join_cons, List.length_append, List.length_cons, Nat.mul_add, Nat.mul_one]
    omega
theorem putW_small (m g : Bool) {c : Int} {b : Nat} {l : List S49} (hc : i64r c) (hb : b < 18446744073709551616) (he : ∀ e ∈ l, i64r e.f1 ∧ i64r e.f2) : ∀ x ∈ (putW m g c b l).map (·.data.toList), x.length ≤ 21 := by
  intro x hx
  obtain ⟨y, hy, rfl⟩ := List.mem_map.1 hx
  unfold putW at hy
  rcases List.mem_append.1 hy with hy | hy
  · rcases List.mem_cons.1 hy with rfl | hy
    · cases m <;> decide
    rcases List.mem_cons.1 hy with rfl | hy
    · cases g <;> decide
    rcases List.mem_cons.1 hy with rfl | hy
    · exact itoa_len hc
    rw [List.mem_singleton.1 hy]
    exact Nat.le_succ_of_le (u_len hb)
  · obtain ⟨e, he1, hy⟩ := List.mem_flatMap.1 hy
    obtain ⟨h1, h2⟩ := he e he1
    unfold evW at hy
    split at hy
    · cases hy
    · rename_i w c n hf
      have hw := formAt_len hf
      rcases List.mem_cons.1 hy with rfl | hy
      · have : y.data.toList.length = y.size := rfl
        dsimp only at hw
        omega
      · rcases List.mem_append.1 hy with hy | hy
        · split at hy
          · rw [List.mem_singleton.1 hy]; exact itoa_len h1
          · cases hy
        · split at hy
          · rw [List.mem_singleton.1 hy]; exact itoa_len h2
          · cases hy
end Go.Proofs.YtglgipggefpoiaaGreatDoor.SF
end
section
namespace Go.Proofs.YtglgipggefpoiaaGreatDoor.SF
open Go.RowKit Go.Sx Go.Proofs.YtglgipggefpoiaaGreatDoor.PAll Go.Proofs.YtglgipggefpoiaaGreatDoorW.PrintWords Go.Proofs.YtglgipggefpoiaaGreatDoorW.PrintLast Go.Proofs.YtglgipggefpoiaaGreatDoorW.PrintMore
set_option linter.unusedVariables false
set_option linter.unusedSimpArgs false
set_option maxRecDepth 100000
def hdB : List ByteArray → ByteArray
  | [] => ⟨#[]⟩
  | x :: _ => x
theorem next_calls {gw : Nat} (b : Nat) (q : Gh) (ws : List ByteArray) (bad : Bool) (w : World) (fb_b : Blk w b (rdc q ws.length bad) 65) (hs : StrsG gw w q.1 ws) (hc : ws.length ≤ q.2) : Calls Tryz.prog 26 #[.pointer (some ⟨b, 0, none⟩)] w fun e w' => ∃ i : Gh, e = .returned (.string (hdB ws)) ∧ (StrsG gw w' i.1 ws.tail ∧ ws.tail.length ≤ i.2) ∧ Upd b 65 (rdc q ws.length bad) (rdc i ws.tail.length (bad || ws.isEmpty)) w w' := by
  rcases ws with _ | ⟨x, ws⟩
  · exact (next_nil b q bad w fb_b).mono (fun e w' ⟨h1, h2⟩ => ⟨q, h1, ⟨fun h => absurd rfl h, hc⟩, by simpa using h2⟩)
  · exact (next_cons b q x ws bad w fb_b hs hc).mono (fun e w' ⟨i, h1, h2, h3⟩ => ⟨i, h1, h2, by simpa using h3⟩)
def isBad (bad : Bool) (ws : List ByteArray) (s : ByteArray) : Bool := (bad || ws.isEmpty) || (!((hdB ws).toList == s.toList) && !((hdB ws).toList == noneB.toList))
theorem is_calls {gw : Nat} (b : Nat) (q : Gh) (ws : List ByteArray) (bad : Bool) (t : ByteArray) (w : World) (fb_b : Blk w b (rdc q ws.length bad) 65) (hs : StrsG gw w q.1 ws) (hc : ws.length ≤ q.2) : Calls Tryz.prog 24 #[.pointer (some ⟨b, 0, none⟩), .string t] w fun e w' => ∃ i : Gh, e = .returned (.bool ((hdB ws).toList == t.toList)) ∧ (StrsG gw w' i.1 ws.tail ∧ ws.tail.length ≤ i.2) ∧ Upd b 65 (rdc q ws.length bad) (rdc i ws.tail.length (isBad bad ws t)) w w' := by
  have hU := Upd.refl fb_b
  refine enter (w0 := w) (hp := [old w]) (env := [(0, .pointer (some ⟨b, 0, none⟩)), (1, .string t)]) Tryz.func24 rfl 27 rfl (by simp) rfl (HeapOK.start _) ?_
  refine wc_seq ?_
  refine wc_region ?_
  refine wl_q (q_assign rfl rfl) rfl rfl (by decide) ?_
  refine wl_nil ?_
  refine fq_then ?_
  refine wc_seq ?_
  refine wc_region ?_
  refine wl_q (q_move rfl rfl) rfl rfl (by decide) ?_
  refine wl_callU (ι := Gh) (fun i => .string (hdB ws)) (fun i => rdc i ws.tail.length (bad || ws.isEmpty)) (fun i w w' => StrsG gw w' i.1 ws.tail ∧ ws.tail.length ≤ i.2) fb_b rfl rfl rfl (by decide) En26 rfl (fun w1 hw1 => (next_calls b q ws bad w1 (fb_b.below (hw1.toBelow (by simp))) (hs.below (hw1.toBelow (by simp))) hc).mono (fun e w' ⟨i, h1, h2, h3⟩ => ⟨i, h2, h1, h3⟩)) (fun q1 wa_1 w_2 Hn_ hu_ hC_ => ?_)
  have hx_ := Hn_.toBelow (by simp)
  have fb_b := fb_b.below hx_
  have hs := hs.below hx_
  have hU := hU.below_r hx_
  have hU := hU.trans hu_
  have fb_b := hu_.now
  have hs := hs.upd hu_
  obtain ⟨hs_q1, hc_q1⟩ := hC_
  refine wl_q (q_assign rfl rfl) rfl rfl (by decide) ?_
  refine wl_nil ?_
  refine fq_then ?_
  refine wc_seq ?_
  refine wc_region ?_
  refine wl_q (q_move rfl rfl) rfl rfl (by decide) ?_
  refine wl_q (q_move rfl rfl) rfl rfl (by decide) ?_
  refine wl_q (q_nilCheck rfl rfl) rfl rfl (by decide) ?_
  refine wl_q (q_fa (o1 := 1) rfl rfl Fo65_1 rfl) rfl rfl (by decide) ?_
  refine wl_q (q_load rfl rfl Mn4 (reads_blk (by simp) fb_b rfl)) rfl rfl (by decide) ?_
  refine wl_q (q_move rfl rfl) rfl rfl (by decide) ?_
  refine wl_split (t := 13) rfl (fun h13 => ?_) (fun h13 => ?_)
  · skip
    refine wl_skip (b := true) rfl rfl rfl rfl (by decide) ?_
    refine wl_skip (b := true) rfl rfl rfl rfl (by decide) ?_
    refine wl_skip (b := true) rfl rfl rfl rfl (by decide) ?_
    refine wl_skip (b := true) rfl rfl rfl rfl (by decide) ?_
    refine wl_skipU rfl rfl rfl rfl (by decide) ?_
    refine wl_skipU rfl rfl rfl rfl (by decide) ?_
    refine wl_skip (b := true) rfl rfl rfl rfl (by decide) ?_
    refine wl_q (q_pick rfl rfl rfl) rfl rfl (by decide) ?_
    refine wl_q (q_nilCheck rfl rfl) rfl rfl (by decide) ?_
    refine wl_q (q_fa (o1 := 1) rfl rfl Fo65_1 rfl) rfl rfl (by decide) ?_
    refine wl_storeK fb_b rfl rfl rfl rfl rfl Sz4 rfl rfl (by first | (simp; done) | (simp [Value.oneCell', rdc]; done)) (by simp [Value.oneCell', rdc]) (by first | rfl | (simp only [List.take_succ_cons, List.take_zero, List.take_nil, List.drop_succ_cons, List.drop_zero, List.drop_nil, List.nil_append, List.cons_append, List.append_nil, List.length_cons, List.length_nil, Nat.reduceAdd, Nat.zero_add]; rfl)) (fun wa_3 w_4 Hn_ hu_ => ?_)
    have hx_ := Hn_.toBelow (by simp)
    have fb_b := fb_b.below hx_
    have hs := hs.below hx_
    have hs_q1 := hs_q1.below hx_
    have hU := hU.below_r hx_
    have hU := hU.trans hu_
    have fb_b := hu_.now
    have hs := hs.upd hu_
    have hs_q1 := hs_q1.upd hu_
    refine wl_nil ?_
    refine fq_then ?_
    refine wc_seq ?_
    refine wc_region ?_
    refine wl_q (q_move rfl rfl) rfl rfl (by decide) ?_
    refine wl_q (q_move rfl rfl) rfl rfl (by decide) ?_
    refine wl_q (q_eqlStr rfl (.inl ⟨rfl, rfl⟩) rfl rfl (fun w => rfl)) rfl rfl (by decide) ?_
    refine wl_q (q_assign rfl rfl) rfl rfl (by decide) ?_
    refine wl_nil ?_
    refine fq_then ?_
    refine wc_ret ?_
    refine fq_ret1 rfl rfl (fun w1 H => ?_)
    refine ⟨q1, rfl, ⟨hs_q1.below (H.toBelow (by simp)), hc_q1⟩, ?_⟩
    have hU2 := hU.below_r (H.toBelow (by simp))
    first | (simp only [isBad, h13, h17, Bool.true_or, Bool.false_or, Bool.true_and, Bool.false_and]; exact hU2) | (simp only [isBad, h13, Bool.true_or]; exact hU2)
  · skip
    refine wl_want (b := false) (q_move rfl rfl) rfl rfl rfl rfl (by decide) ?_
    refine wl_want (b := false) (q_move rfl rfl) rfl rfl rfl rfl (by decide) ?_
    refine wl_want (b := false) (q_eqlStr rfl (.inr ⟨rfl, rfl⟩) rfl rfl (fun w => rfl)) rfl rfl rfl rfl (by decide) ?_
    refine wl_want (b := false) (q_move rfl rfl) rfl rfl rfl rfl (by decide) ?_
    refine wl_split (t := 17) rfl (fun h17 => ?_) (fun h17 => ?_)
    · skip
      refine wl_want (b := true) (q_move rfl rfl) rfl rfl rfl rfl (by decide) ?_
      refine wl_want (b := true) (q_eqlStr rfl (.inr ⟨rfl, rfl⟩) rfl rfl (fun w => rfl)) rfl rfl rfl rfl (by decide) ?_
      refine wl_want (b := false) (q_pick rfl rfl rfl) rfl rfl rfl rfl (by decide) ?_
      refine wl_q (q_pick rfl rfl rfl) rfl rfl (by decide) ?_
      refine wl_q (q_nilCheck rfl rfl) rfl rfl (by decide) ?_
      refine wl_q (q_fa (o1 := 1) rfl rfl Fo65_1 rfl) rfl rfl (by decide) ?_
      refine wl_storeK fb_b rfl rfl rfl rfl rfl Sz4 rfl rfl (by first | (simp; done) | (simp [Value.oneCell', rdc]; done)) (by simp [Value.oneCell', rdc]) (by first | rfl | (simp only [List.take_succ_cons, List.take_zero, List.take_nil, List.drop_succ_cons, List.drop_zero, List.drop_nil, List.nil_append, List.cons_append, List.append_nil, List.length_cons, List.length_nil, Nat.reduceAdd, Nat.zero_add]; rfl)) (fun wa_5 w_6 Hn_ hu_ => ?_)
      have hx_ := Hn_.toBelow (by simp)
      have fb_b := fb_b.below hx_
      have hs := hs.below hx_
      have hs_q1 := hs_q1.below hx_
      have hU := hU.below_r hx_
      have hU := hU.trans hu_
      have fb_b := hu_.now
      have hs := hs.upd hu_
      have hs_q1 := hs_q1.upd hu_
      refine wl_nil ?_
      refine fq_then ?_
      refine wc_seq ?_
      refine wc_region ?_
      refine wl_q (q_move rfl rfl) rfl rfl (by decide) ?_
      refine wl_q (q_move rfl rfl) rfl rfl (by decide) ?_
      refine wl_q (q_eqlStr rfl (.inl ⟨rfl, rfl⟩) rfl rfl (fun w => rfl)) rfl rfl (by decide) ?_
      refine wl_q (q_assign rfl rfl) rfl rfl (by decide) ?_
      refine wl_nil ?_
      refine fq_then ?_
      refine wc_ret ?_
      refine fq_ret1 rfl rfl (fun w1 H => ?_)
      refine ⟨q1, rfl, ⟨hs_q1.below (H.toBelow (by simp)), hc_q1⟩, ?_⟩
      have hU2 := hU.below_r (H.toBelow (by simp))
      first | (simp only [isBad, h13, h17, Bool.true_or, Bool.false_or, Bool.true_and, Bool.false_and]; exact hU2) | (simp only [isBad, h13, Bool.true_or]; exact hU2)
    · skip
      refine wl_skip (b := false) rfl rfl rfl rfl (by decide) ?_
      refine wl_skip (b := false) rfl rfl rfl rfl (by decide) ?_
      refine wl_want (b := false) (q_pick rfl rfl rfl) rfl rfl rfl rfl (by decide) ?_
      refine wl_q (q_pick rfl rfl rfl) rfl rfl (by decide) ?_
      refine wl_q (q_nilCheck rfl rfl) rfl rfl (by decide) ?_
      refine wl_q (q_fa (o1 := 1) rfl rfl Fo65_1 rfl) rfl rfl (by decide) ?_
      refine wl_storeK fb_b rfl rfl rfl rfl rfl Sz4 rfl rfl (by first | (simp; done) | (simp [Value.oneCell', rdc]; done)) (by simp [Value.oneCell', rdc]) (by first | rfl | (simp only [List.take_succ_cons, List.take_zero, List.take_nil, List.drop_succ_cons, List.drop_zero, List.drop_nil, List.nil_append, List.cons_append, List.append_nil, List.length_cons, List.length_nil, Nat.reduceAdd, Nat.zero_add]; rfl)) (fun wa_7 w_8 Hn_ hu_ => ?_)
      have hx_ := Hn_.toBelow (by simp)
      have fb_b := fb_b.below hx_
      have hs := hs.below hx_
      have hs_q1 := hs_q1.below hx_
      have hU := hU.below_r hx_
      have hU := hU.trans hu_
      have fb_b := hu_.now
      have hs := hs.upd hu_
      have hs_q1 := hs_q1.upd hu_
      refine wl_nil ?_
      refine fq_then ?_
      refine wc_seq ?_
      refine wc_region ?_
      refine wl_q (q_move rfl rfl) rfl rfl (by decide) ?_
      refine wl_q (q_move rfl rfl) rfl rfl (by decide) ?_
      refine wl_q (q_eqlStr rfl (.inl ⟨rfl, rfl⟩) rfl rfl (fun w => rfl)) rfl rfl (by decide) ?_
      refine wl_q (q_assign rfl rfl) rfl rfl (by decide) ?_
      refine wl_nil ?_
      refine fq_then ?_
      refine wc_ret ?_
      refine fq_ret1 rfl rfl (fun w1 H => ?_)
      refine ⟨q1, rfl, ⟨hs_q1.below (H.toBelow (by simp)), hc_q1⟩, ?_⟩
      have hU2 := hU.below_r (H.toBelow (by simp))
      first | (simp only [isBad, h13, h17, Bool.true_or, Bool.false_or, Bool.true_and, Bool.false_and]; exact hU2) | (simp only [isBad, h13, Bool.true_or]; exact hU2)
end Go.Proofs.YtglgipggefpoiaaGreatDoor.SF
end
section
namespace Go.Proofs.YtglgipggefpoiaaGreatDoor.SF
open Go.RowKit Go.Sx Go.Proofs.YtglgipggefpoiaaGreatDoor.PAll Go.Proofs.YtglgipggefpoiaaGreatDoorW.PrintWords Go.Proofs.YtglgipggefpoiaaGreatDoorW.PrintLast Go.Proofs.YtglgipggefpoiaaGreatDoorW.PrintMore
set_option linter.unusedVariables false
set_option linter.unusedSimpArgs false
set_option maxRecDepth 100000
def evErr : Value → Bool
  | .nilIface => false
  | _ => true
section
variable {P : Program} {ops : Array Oper} {Q : Exit → Act → World → Prop} {w0 : World} {N : Fr} {l : List Oper} {env : Env} {hp : List Sx.Item} {o : Oper}
theorem q_neqErr {t u : TypeId} {x : Operand} {ev : Value} (ho : o.op = .binOp .neq t x (.const .nilIface) u) (hx : evE x env = some ev) (ht : P.underlying t = some (.interface (P.methodsAt t))) (h : ev = .nilIface ∨ ∃ T N, ev = .iface T (.pointer N)) : OpQ P o env w0 hp (.bool (evErr ev)) := by
  rcases h with rfl | ⟨T, M, rfl⟩
  · exact OpQ.to (q_eqOf ho (.inr rfl) hx rfl (fun op => ⟨rfl, rfl, by cases op <;> simp [eqGuard]⟩) (fun w => run_equal_nil_nil w t ht)) rfl
  · exact OpQ.to (q_eqOf ho (.inr rfl) hx rfl (fun op => ⟨rfl, rfl, by cases op <;> rfl⟩) (fun w => run_equal_held_nil w t T _ ht)) rfl
end
def numP (s : ByteArray) : Option Int := match Lib.atoiAll s.data.toList with
  | .ok v => if (ibs v).toList == s.toList then some v else none
  | _ => none
def numBad (bad : Bool) (ws : List ByteArray) : Bool := (bad || ws.isEmpty) || (numP (hdB ws)).isNone
theorem AtoiC.ev {s : ByteArray} {n : Int} {ev : Value} (h : AtoiC s n ev) : ev = .nilIface ∨ ∃ T N, ev = .iface T (.pointer N) := by
  rcases h with ⟨rfl, _⟩ | ⟨⟨N, rfl⟩, _⟩
  · exact .inl rfl
  · exact .inr ⟨_, _, rfl⟩
theorem AtoiC.rng {s : ByteArray} {n : Int} {ev : Value} (h : AtoiC s n ev) : i64r n := by
  rcases h with ⟨rfl, h⟩ | ⟨_, h1, h2, _⟩
  · exact Lib.atoiAll_bounds h
  · exact ⟨h1, h2⟩
theorem AtoiC.bad {s : ByteArray} {n : Int} {ev : Value} (h : AtoiC s n ev) (he : evErr ev = true) : numP s = none := by
  rcases h with ⟨rfl, _⟩ | ⟨_, _, _, h⟩
  · cases he
  · unfold numP
    split
    · rename_i v hv; exact absurd hv (h v)
    · rfl
theorem AtoiC.good {s : ByteArray} {n : Int} {ev : Value} (h : AtoiC s n ev) (he : evErr ev = false) : numP s = if (ibs n).toList == s.toList then some n else none := by
  rcases h with ⟨rfl, h⟩ | ⟨⟨N, rfl⟩, _⟩
  · unfold numP; rw [h]
  · cases he
theorem AtoiC.val {s : ByteArray} {n : Int} {ev : Value} (h : AtoiC s n ev) (v : Int) (hv : numP s = some v) : n = v := by
  cases he : evErr ev with
  | true => rw [h.bad he] at hv; cases hv
  | false =>
    rw [h.good he] at hv
    split at hv
    · cases hv; rfl
    · cases hv
theorem AtoiC.none {s : ByteArray} {n : Int} {ev : Value} (h : AtoiC s n ev) (he : evErr ev = false) : (numP s).isNone = !((ibs n).toList == s.toList) := by
  rw [h.good he]
  cases (ibs n).toList == s.toList <;> rfl
theorem num_calls {gw : Nat} (b : Nat) (q : Gh) (ws : List ByteArray) (bad : Bool) (w : World) (hL : Lw w) (fb_b : Blk w b (rdc q ws.length bad) 65) (hs : StrsG gw w q.1 ws) (hc : ws.length ≤ q.2) (hsz : (hdB ws).size ≤ 1000000) : Calls Tryz.prog 25 #[.pointer (some ⟨b, 0, none⟩)] w fun e w' => ∃ i : Gh × Int, e = .returned (.int .i64 i.2) ∧ ((StrsG gw w' i.1.1 ws.tail ∧ ws.tail.length ≤ i.1.2) ∧ i64r i.2 ∧ ∀ v, numP (hdB ws) = some v → i.2 = v) ∧ Upd b 65 (rdc q ws.length bad) (rdc i.1 ws.tail.length (numBad bad ws)) w w' := by
  have hU := Upd.refl fb_b
  refine enter (w0 := w) (hp := [old w]) (env := [(0, .pointer (some ⟨b, 0, none⟩))]) Tryz.func25 rfl 31 rfl (by simp) rfl (HeapOK.start _) ?_
  refine wc_seq ?_
  refine wc_region ?_
  refine wl_q (q_assign rfl rfl) rfl rfl (by decide) ?_
  refine wl_nil ?_
  refine fq_then ?_
  refine wc_seq ?_
  refine wc_region ?_
  refine wl_q (q_move rfl rfl) rfl rfl (by decide) ?_
  refine wl_callU (ι := Gh) (fun i => .string (hdB ws)) (fun i => rdc i ws.tail.length (bad || ws.isEmpty)) (fun i w w' => StrsG gw w' i.1 ws.tail ∧ ws.tail.length ≤ i.2) fb_b rfl rfl rfl (by decide) En26 rfl (fun w1 hw1 => (next_calls b q ws bad w1 (fb_b.below (hw1.toBelow (by simp))) (hs.below (hw1.toBelow (by simp))) hc).mono (fun e w' ⟨i, h1, h2, h3⟩ => ⟨i, h2, h1, h3⟩)) (fun q1 wa_1 w_2 Hn_ hu_ hC_ => ?_)
  have hx_ := Hn_.toBelow (by simp)
  have fb_b := fb_b.below hx_
  have hs := hs.below hx_
  have hL := hL.below hx_
  have hU := hU.below_r hx_
  have hU := hU.trans hu_
  have fb_b := hu_.now
  have hs := hs.upd hu_
  have hL := hL.upd hu_
  obtain ⟨hs_q1, hc_q1⟩ := hC_
  refine wl_q (q_assign rfl rfl) rfl rfl (by decide) ?_
  refine wl_nil ?_
  refine fq_then ?_
  refine wc_seq ?_
  refine wc_region ?_
  refine wl_q (q_move rfl rfl) rfl rfl (by decide) ?_
  refine wl_callK (ι := (Int × Value)) (fun i => .tuple #[.int .i64 i.1, i.2]) (fun i w w' => AtoiC (hdB ws) i.1 i.2) rfl rfl rfl (by decide) En45 rfl (fun w1 hw1 => (atoi_calls (hdB ws) hsz w1 (hL.below (hw1.toBelow (by simp)))).mono (fun e w' ⟨i, h1, h2, h3⟩ => ⟨i, h2, h1, h3⟩)) (fun ⟨n, ev⟩ wa_ w_3 _ Hn_ _ hC_ => ?_)
  have hx_ := Hn_.toBelow (by simp)
  have fb_b := fb_b.below hx_
  have hs := hs.below hx_
  have hL := hL.below hx_
  have hs_q1 := hs_q1.below hx_
  have hU := hU.below_r hx_
  have hAt : AtoiC (hdB ws) n ev := hC_
  refine wl_q (q_move rfl rfl) rfl rfl (by decide) ?_
  refine wl_q (q_extract rfl rfl rfl) rfl rfl (by decide) ?_
  refine wl_q (q_extract rfl rfl rfl) rfl rfl (by decide) ?_
  refine wl_q (q_assign rfl rfl) rfl rfl (by decide) ?_
  refine wl_q (q_assign rfl rfl) rfl rfl (by decide) ?_
  refine wl_nil ?_
  refine fq_then ?_
  refine wc_seq ?_
  refine wc_region ?_
  refine wl_q (q_move rfl rfl) rfl rfl (by decide) ?_
  refine wl_q (q_move rfl rfl) rfl rfl (by decide) ?_
  refine wl_q (q_nilCheck rfl rfl) rfl rfl (by decide) ?_
  refine wl_q (q_fa (o1 := 1) rfl rfl Fo65_1 rfl) rfl rfl (by decide) ?_
  refine wl_q (q_load rfl rfl Mn4 (reads_blk (by simp) fb_b rfl)) rfl rfl (by decide) ?_
  refine wl_q (q_move rfl rfl) rfl rfl (by decide) ?_
  refine wl_split (t := 18) rfl (fun h18 => ?_) (fun h18 => ?_)
  · skip
    refine wl_skip (b := true) rfl rfl rfl rfl (by decide) ?_
    refine wl_skip (b := true) rfl rfl rfl rfl (by decide) ?_
    refine wl_q (q_pick rfl rfl rfl) rfl rfl (by decide) ?_
    refine wl_q (q_move rfl rfl) rfl rfl (by decide) ?_
    refine wl_skip (b := true) rfl rfl rfl rfl (by decide) ?_
    refine wl_skip (b := true) rfl rfl rfl rfl (by decide) ?_
    refine wl_skip (b := true) rfl rfl rfl rfl (by decide) ?_
    refine wl_skip (b := true) rfl rfl rfl rfl (by decide) ?_
    refine wl_q (q_pick rfl rfl rfl) rfl rfl (by decide) ?_
    refine wl_q (q_nilCheck rfl rfl) rfl rfl (by decide) ?_
    refine wl_q (q_fa (o1 := 1) rfl rfl Fo65_1 rfl) rfl rfl (by decide) ?_
    refine wl_storeK fb_b rfl rfl rfl rfl rfl Sz4 rfl rfl (by first | (simp; done) | (simp [Value.oneCell', rdc]; done)) (by simp [Value.oneCell', rdc]) (by first | rfl | (simp only [List.take_succ_cons, List.take_zero, List.take_nil, List.drop_succ_cons, List.drop_zero, List.drop_nil, List.nil_append, List.cons_append, List.append_nil, List.length_cons, List.length_nil, Nat.reduceAdd, Nat.zero_add]; rfl)) (fun wa_4 w_5 Hn_ hu_ => ?_)
    have hx_ := Hn_.toBelow (by simp)
    have fb_b := fb_b.below hx_
    have hs := hs.below hx_
    have hL := hL.below hx_
    have hs_q1 := hs_q1.below hx_
    have hU := hU.below_r hx_
    have hU := hU.trans hu_
    have fb_b := hu_.now
    have hs := hs.upd hu_
    have hL := hL.upd hu_
    have hs_q1 := hs_q1.upd hu_
    refine wl_nil ?_
    refine fq_then ?_
    refine wc_seq ?_
    refine wc_region ?_
    refine wl_q (q_move rfl rfl) rfl rfl (by decide) ?_
    refine wl_q (q_assign rfl rfl) rfl rfl (by decide) ?_
    refine wl_nil ?_
    refine fq_then ?_
    refine wc_ret ?_
    refine fq_ret1 rfl rfl (fun w1 H => ?_)
    refine ⟨(q1, n), rfl, ⟨⟨hs_q1.below (H.toBelow (by simp)), hc_q1⟩, hAt.rng, hAt.val⟩, ?_⟩
    have hU2 := hU.below_r (H.toBelow (by simp))
    first | (simp only [numBad, h18, Bool.true_or]; exact hU2) | (simp only [numBad, h18, hAt.bad h22, Option.isNone_none, Bool.or_true]; exact hU2) | (simp only [numBad, h18, hAt.none h22, Bool.false_or]; exact hU2)
  · skip
    refine wl_want (b := false) (q_move rfl rfl) rfl rfl rfl rfl (by decide) ?_
    refine wl_want (b := false) (q_neqErr rfl rfl (by kernel_rfl) hAt.ev) rfl rfl rfl rfl (by decide) ?_
    refine wl_q (q_pick rfl rfl rfl) rfl rfl (by decide) ?_
    refine wl_q (q_move rfl rfl) rfl rfl (by decide) ?_
    refine wl_split (t := 22) rfl (fun h22 => ?_) (fun h22 => ?_)
    · skip
      refine wl_skip (b := true) rfl rfl rfl rfl (by decide) ?_
      refine wl_skip (b := true) rfl rfl rfl rfl (by decide) ?_
      refine wl_skip (b := true) rfl rfl rfl rfl (by decide) ?_
      refine wl_skip (b := true) rfl rfl rfl rfl (by decide) ?_
      refine wl_q (q_pick rfl rfl rfl) rfl rfl (by decide) ?_
      refine wl_q (q_nilCheck rfl rfl) rfl rfl (by decide) ?_
      refine wl_q (q_fa (o1 := 1) rfl rfl Fo65_1 rfl) rfl rfl (by decide) ?_
      refine wl_storeK fb_b rfl rfl rfl rfl rfl Sz4 rfl rfl (by first | (simp; done) | (simp [Value.oneCell', rdc]; done)) (by simp [Value.oneCell', rdc]) (by first | rfl | (simp only [List.take_succ_cons, List.take_zero, List.take_nil, List.drop_succ_cons, List.drop_zero, List.drop_nil, List.nil_append, List.cons_append, List.append_nil, List.length_cons, List.length_nil, Nat.reduceAdd, Nat.zero_add]; rfl)) (fun wa_6 w_7 Hn_ hu_ => ?_)
      have hx_ := Hn_.toBelow (by simp)
      have fb_b := fb_b.below hx_
      have hs := hs.below hx_
      have hL := hL.below hx_
      have hs_q1 := hs_q1.below hx_
      have hU := hU.below_r hx_
      have hU := hU.trans hu_
      have fb_b := hu_.now
      have hs := hs.upd hu_
      have hL := hL.upd hu_
      have hs_q1 := hs_q1.upd hu_
      refine wl_nil ?_
      refine fq_then ?_
      refine wc_seq ?_
      refine wc_region ?_
      refine wl_q (q_move rfl rfl) rfl rfl (by decide) ?_
      refine wl_q (q_assign rfl rfl) rfl rfl (by decide) ?_
      refine wl_nil ?_
      refine fq_then ?_
      refine wc_ret ?_
      refine fq_ret1 rfl rfl (fun w1 H => ?_)
      refine ⟨(q1, n), rfl, ⟨⟨hs_q1.below (H.toBelow (by simp)), hc_q1⟩, hAt.rng, hAt.val⟩, ?_⟩
      have hU2 := hU.below_r (H.toBelow (by simp))
      first | (simp only [numBad, h18, Bool.true_or]; exact hU2) | (simp only [numBad, h18, hAt.bad h22, Option.isNone_none, Bool.or_true]; exact hU2) | (simp only [numBad, h18, hAt.none h22, Bool.false_or]; exact hU2)
    · skip
      refine wl_want (b := false) (q_move rfl rfl) rfl rfl rfl rfl (by decide) ?_
      refine wl_want (b := false) (q_call rfl En17 rfl (fun w1 hw1 => itoa_calls n hAt.rng w1 (hL.below (hw1.toBelow (by simp))))) rfl rfl rfl rfl (by decide) ?_
      refine wl_want (b := false) (q_move rfl rfl) rfl rfl rfl rfl (by decide) ?_
      refine wl_want (b := false) (q_eqlStr rfl (.inr ⟨rfl, rfl⟩) rfl rfl (fun w => rfl)) rfl rfl rfl rfl (by decide) ?_
      refine wl_q (q_pick rfl rfl rfl) rfl rfl (by decide) ?_
      refine wl_q (q_nilCheck rfl rfl) rfl rfl (by decide) ?_
      refine wl_q (q_fa (o1 := 1) rfl rfl Fo65_1 rfl) rfl rfl (by decide) ?_
      refine wl_storeK fb_b rfl rfl rfl rfl rfl Sz4 rfl rfl (by first | (simp; done) | (simp [Value.oneCell', rdc]; done)) (by simp [Value.oneCell', rdc]) (by first | rfl | (simp only [List.take_succ_cons, List.take_zero, List.take_nil, List.drop_succ_cons, List.drop_zero, List.drop_nil, List.nil_append, List.cons_append, List.append_nil, List.length_cons, List.length_nil, Nat.reduceAdd, Nat.zero_add]; rfl)) (fun wa_8 w_9 Hn_ hu_ => ?_)
      have hx_ := Hn_.toBelow (by simp)
      have fb_b := fb_b.below hx_
      have hs := hs.below hx_
      have hL := hL.below hx_
      have hs_q1 := hs_q1.below hx_
      have hU := hU.below_r hx_
      have hU := hU.trans hu_
      have fb_b := hu_.now
      have hs := hs.upd hu_
      have hL := hL.upd hu_
      have hs_q1 := hs_q1.upd hu_
      refine wl_nil ?_
      refine fq_then ?_
      refine wc_seq ?_
      refine wc_region ?_
      refine wl_q (q_move rfl rfl) rfl rfl (by decide) ?_
      refine wl_q (q_assign rfl rfl) rfl rfl (by decide) ?_
      refine wl_nil ?_
      refine fq_then ?_
      refine wc_ret ?_
      refine fq_ret1 rfl rfl (fun w1 H => ?_)
      refine ⟨(q1, n), rfl, ⟨⟨hs_q1.below (H.toBelow (by simp)), hc_q1⟩, hAt.rng, hAt.val⟩, ?_⟩
      have hU2 := hU.below_r (H.toBelow (by simp))
      first | (simp only [numBad, h18, Bool.true_or]; exact hU2) | (simp only [numBad, h18, hAt.bad h22, Option.isNone_none, Bool.or_true]; exact hU2) | (simp only [numBad, h18, hAt.none h22, Bool.false_or]; exact hU2)
end Go.Proofs.YtglgipggefpoiaaGreatDoor.SF
end
section
namespace Go.Proofs.YtglgipggefpoiaaGreatDoor.SF
open Go.RowKit Go.Sx Go.Proofs.YtglgipggefpoiaaGreatDoor.PAll Go.Proofs.YtglgipggefpoiaaGreatDoorW.PrintWords Go.Proofs.YtglgipggefpoiaaGreatDoorW.PrintLast Go.Proofs.YtglgipggefpoiaaGreatDoorW.PrintMore
set_option linter.unusedVariables false
set_option linter.unusedSimpArgs false
set_option maxRecDepth 100000
theorem StrsG.updI {gw b : Nat} {T : TypeId} {cs cs' : List Value} {w w' : World} {A : Option Addr} {ws : List ByteArray} (h : StrsG gw w A ws) (hu : Upd b T cs cs' w w') (hn : ∀ (k : Nat) (x : ByteArray), cs[k]? ≠ some (.string x)) : StrsG gw w' A ws := fun hne => by
  obtain ⟨o, e, hc⟩ := h hne
  exact ⟨o, e, fun j x hx => hu.cell (hc j x hx) (hu.ne (hc j x hx) (fun k => hn k x))⟩
theorem var_lt {P : Program} {w : World} {name : String} {cs : Array Value} (h : w.var? P name = some cs) : ∃ g, P.globalNamed name = some g ∧ g < w.heap.size := by
  unfold World.var? at h
  cases hg : P.globalNamed name with
  | none => rw [hg] at h; cases h
  | some g =>
    rw [hg] at h
    simp only [Option.bind_some] at h
    cases hc : w.heap[g]? with
    | none => rw [hc] at h; cases h
    | some o => exact ⟨g, rfl, (Array.getElem?_eq_some_iff.1 hc).1⟩
theorem var_upd {P : Program} {w0 w w' : World} {name : String} {c0 cs : Array Value} {b : Nat} {T : TypeId} {x y : List Value} (h0 : w0.var? P name = some c0) (h : w.var? P name = some cs) (hu : Upd b T x y w w') (hb : w0.heap.size ≤ b) : w'.var? P name = some cs := by
  obtain ⟨g, hg, hl⟩ := var_lt h0
  obtain ⟨g2, hg2, hl2⟩ := var_lt h
  rw [hg] at hg2
  cases hg2
  unfold World.var? at h ⊢
  rw [hg] at h ⊢
  simp only [Option.bind_some] at h ⊢
  rw [hu.other g hl2 (by omega)]
  exact h
theorem Lw.updN {w0 w w' : World} {b : Nat} {T : TypeId} {x y : List Value} (h0 : Lw w0) (h : Lw w) (hu : Upd b T x y w w') (hb : w0.heap.size ≤ b) : Lw w' := by
  obtain ⟨t1, p1, h1⟩ := h.syn
  obtain ⟨t2, p2, h2⟩ := h.ran
  obtain ⟨m, h3⟩ := h.len
  obtain ⟨_, _, g1⟩ := h0.syn
  obtain ⟨_, _, g2⟩ := h0.ran
  obtain ⟨_, g3⟩ := h0.len
  exact ⟨var_upd h0.tab h.tab hu hb, ⟨t1, p1, var_upd g1 h1 hu hb⟩, ⟨t2, p2, var_upd g2 h2 hu hb⟩, ⟨m, hu.cell h3 (by have := block_lt_of_cell g3; exact Nat.ne_of_lt (Nat.lt_of_lt_of_le this hb))⟩⟩
def kindOf (s : ByteArray) : Option (Int × Bool × Bool) := if s.toList = [104, 97, 108, 108] then some (0, false, true) else if s.toList = [99, 97, 108, 108] then some (1, true, true) else if s.toList = [108, 111, 97, 100] then some (2, true, true) else if s.toList = [102, 97, 117, 108, 116] then some (3, true, false) else if s.toList = [114, 101, 115, 101, 116] then some (4, true, false) else if s.toList = [112, 105, 99, 107] then some (5, true, false) else if s.toList = [114, 101, 115, 116, 97, 114, 116] then some (6, false, true) else none
def evRest (ws : List ByteArray) : List ByteArray := match kindOf (hdB ws) with
  | none => ws.tail
  | some (_, c, n) => if n then (if c then ws.tail.tail else ws.tail).tail else (if c then ws.tail.tail else ws.tail)
def evBad (bad : Bool) (ws : List ByteArray) : Bool := match kindOf (hdB ws) with
  | none => true
  | some (_, c, n) => if n then numBad (if c then numBad (bad || ws.isEmpty) ws.tail else (bad || ws.isEmpty)) (if c then ws.tail.tail else ws.tail) else (if c then numBad (bad || ws.isEmpty) ws.tail else (bad || ws.isEmpty))
def EvC (ws : List ByteArray) (e : S49) : Prop := (kindOf (hdB ws) = none → e = ⟨0, 0, 0⟩) ∧ ∀ k c n, kindOf (hdB ws) = some (k, c, n) → e.f0 = k ∧ (c = true → i64r e.f1 ∧ ∀ v, numP (hdB ws.tail) = some v → e.f1 = v) ∧ (c = false → e.f1 = 0) ∧ (n = true → i64r e.f2 ∧ ∀ v, numP (hdB (if c then ws.tail.tail else ws.tail)) = some v → e.f2 = v) ∧ (n = false → e.f2 = 0)
theorem forms_at {m : Nat} {y : Int} {u : Value} (h : formsL[m]? = some (y, u)) : ∃ wd c n, formAt y = some (wd, c, n) ∧ u = .agg #[.string wd, .bool c, .bool n] ∧ y = m ∧ m < 7 ∧ ∀ s : ByteArray, wd.toList = s.toList → kindOf s = some ((m : Int), c, n) := by
  rcases m with _ | _ | _ | _ | _ | _ | _ | m
  all_goals first | (simp [formsL] at h; done) | (cases h; exact ⟨_, _, _, rfl, rfl, rfl, by decide, fun s hs => by unfold kindOf; rw [← hs]; simp⟩)
theorem EvC.mk {ws : List ByteArray} {e : S49} {k : Int} {c n : Bool} (hk : kindOf (hdB ws) = some (k, c, n)) (h : e.f0 = k ∧ (c = true → i64r e.f1 ∧ ∀ v, numP (hdB ws.tail) = some v → e.f1 = v) ∧ (c = false → e.f1 = 0) ∧ (n = true → i64r e.f2 ∧ ∀ v, numP (hdB (if c then ws.tail.tail else ws.tail)) = some v → e.f2 = v) ∧ (n = false → e.f2 = 0)) : EvC ws e :=
  ⟨fun h2 => by rw [hk] at h2; (cases h2), fun k2 c2 n2 h2 => by rw [hk] at h2; cases h2; exact h⟩
theorem EvC.no {ws : List ByteArray} (hk : kindOf (hdB ws) = none) : EvC ws ⟨0, 0, 0⟩ := ⟨fun _ => rfl, fun k c n h => by rw [hk] at h; (cases h)⟩
def wordIs (s : ByteArray) (m : Nat) : Prop := ∀ wd c n, formAt m = some (wd, c, n) → wd.toList = s.toList
theorem kind_none {s : ByteArray} (h : ∀ m, m < 7 → ¬ wordIs s m) : kindOf s = none := by
  unfold kindOf
  rw [if_neg (fun e => h 0 (by decide) (fun wd c n hf => by cases hf; rw [e]; simp))]
  rw [if_neg (fun e => h 1 (by decide) (fun wd c n hf => by cases hf; rw [e]; simp))]
  rw [if_neg (fun e => h 2 (by decide) (fun wd c n hf => by cases hf; rw [e]; simp))]
  rw [if_neg (fun e => h 3 (by decide) (fun wd c n hf => by cases hf; rw [e]; simp))]
  rw [if_neg (fun e => h 4 (by decide) (fun wd c n hf => by cases hf; rw [e]; simp))]
  rw [if_neg (fun e => h 5 (by decide) (fun wd c n hf => by cases hf; rw [e]; simp))]
  rw [if_neg (fun e => h 6 (by decide) (fun wd c n hf => by cases hf; rw [e]; simp))]
def muS (seen : Array Nat) : Nat := (List.range 7).countP (fun m => !seen.contains m)
theorem muS_push {seen : Array Nat} {m : Nat} (h : m < 7) (hn : m ∉ seen) : muS (seen.push m) < muS seen := by
  unfold muS
  have key : ∀ (L : List Nat), L.countP (fun k => !(seen.push m).contains k) ≤ L.countP (fun k => !seen.contains k) ∧ (m ∈ L → L.countP (fun k => !(seen.push m).contains k) < L.countP (fun k => !seen.contains k)) := by
    intro L
    induction L with
    | nil => exact ⟨Nat.le_refl _, fun h => by cases h⟩
    | cons x L ih =>
      rw [List.countP_cons, List.countP_cons]
      by_cases hx : x = m
      · subst hx
        have e1 : (seen.push x).contains x = true := by simp
        have e2 : seen.contains x = false := by simpa using hn
        rw [e1, e2]
        simp only [Bool.not_true, Bool.not_false, Bool.false_eq_true, if_false, if_true]
        exact ⟨by omega, fun _ => by omega⟩
      · have e1 : (seen.push m).contains x = seen.contains x := by
          rw [Bool.eq_iff_iff]; simp [hx]
        rw [e1]
        refine ⟨by omega, fun hm => ?_⟩
        rcases List.mem_cons.1 hm with e | hm
        · exact absurd e.symm hx
        · have := ih.2 hm; omega
  exact (key _).2 (by simpa using h)
theorem hd_sz {ws : List ByteArray} (h : ∀ x ∈ ws, x.size ≤ 1000000) : (hdB ws).size ≤ 1000000 := by
  rcases ws with _ | ⟨x, ws⟩
  · decide
  · exact h x (by simp)
set_option maxHeartbeats 4000000 in
theorem event_calls {gw : Nat} (b : Nat) (q : Gh) (ws : List ByteArray) (bad : Bool) (w : World) (hL : Lw w) (fb_b : Blk w b (rdc q ws.length bad) 65) (hs : StrsG gw w q.1 ws) (hc : ws.length ≤ q.2) (hsz : ∀ x ∈ ws, x.size ≤ 1000000) : Calls Tryz.prog 28 #[.pointer (some ⟨b, 0, none⟩)] w fun e w' => ∃ i : Gh × S49, e = .returned (.agg #[.int .i64 i.2.f0, .int .i64 i.2.f1, .int .i64 i.2.f2]) ∧ ((StrsG gw w' i.1.1 (evRest ws) ∧ (evRest ws).length ≤ i.1.2) ∧ EvC ws i.2) ∧ Upd b 65 (rdc q ws.length bad) (rdc i.1 (evRest ws).length (evBad bad ws)) w w' := by
  have hU := Upd.refl fb_b
  have hL0 := hL
  refine enter (w0 := w) (hp := [old w]) (env := [(0, .pointer (some ⟨b, 0, none⟩))]) Tryz.func28 rfl 37 rfl (by simp) rfl (HeapOK.start _) ?_
  refine wc_seq ?_
  refine wc_region ?_
  refine wl_alloc rfl rfl rfl (by decide) Zr49 (fun b1 => ?_)
  refine wl_nil ?_
  refine fq_then ?_
  refine wc_scope ?_
  refine wc_seq ?_
  refine wc_region ?_
  refine wl_q (q_move rfl rfl) rfl rfl (by decide) ?_
  refine wl_ground (fun w_4 Hn_ => ?_)
  have hx_ := Hn_.toBelow (by simp)
  have fb_b1 : Blk w_4 b1 _ _ := Hn_.get (i := 0) rfl
  have hne_b_b1 := Nat.ne_of_lt (Nat.lt_of_lt_of_le fb_b.lt (Hn_.apart_oldR (i := 0) (j := 1) rfl rfl (by decide)))
  have hnb_b1 := Nat.le_trans hU.size (Hn_.apart_oldR (i := 0) (j := 1) rfl rfl (by decide))
  have fb_b := fb_b.below hx_
  have hs := hs.below hx_
  have hL := hL.below hx_
  have hU := hU.below_r hx_
  refine wl_callU (ι := Gh) (fun i => .string (hdB ws)) (fun i => rdc i ws.tail.length (bad || ws.isEmpty)) (fun i w w' => StrsG gw w' i.1 ws.tail ∧ ws.tail.length ≤ i.2) fb_b rfl rfl rfl (by decide) En26 rfl (fun w1 hw1 => (next_calls b q ws bad w1 (fb_b.below (hw1.toBelow (by simp))) (hs.below (hw1.toBelow (by simp))) hc).mono (fun e w' ⟨i, h1, h2, h3⟩ => ⟨i, h2, h1, h3⟩)) (fun q1 wa_2 w_3 Hn_ hu_ hC_ => ?_)
  have hx_ := Hn_.toBelow (by simp)
  have fb_b := fb_b.below hx_
  have hs := hs.below hx_
  have hL := hL.below hx_
  have fb_b1 := fb_b1.below hx_
  have hU := hU.below_r hx_
  have hU := hU.trans hu_
  have fb_b := hu_.now
  have hs := hs.upd hu_
  have hL := hL.upd hu_
  have fb_b1 := hu_.blkN fb_b1 (Ne.symm hne_b_b1)
  obtain ⟨hs_q1, hc_q1⟩ := hC_
  refine wl_q (q_assign rfl rfl) rfl rfl (by decide) ?_
  refine wl_nil ?_
  refine fq_then ?_
  refine wc_seq ?_
  refine wc_label ?_
  refine fq_then ?_
  refine wc_seq ?_
  refine wc_seq ?_
  refine wc_region ?_
  refine wl_call (ι := Nat) (fun i => .map (some i)) (fun i => .obj i (mobj .i64 formsL) :: _) (fun _ => True) rfl rfl rfl (by decide) En19 rfl (fun w1 hw1 => (forms_calls w1).mono (fun e w' ⟨i, h1, h2⟩ => ⟨i, trivial, h1, hw1.lift1 h2⟩)) (fun bm _ => ?_)
  skip
  refine wl_rangeMap (i := 0) rfl rfl rfl (by decide) rfl Tryz.underlying55 rfl (fun b5 => ?_)
  refine wl_nil ?_
  refine fq_then ?_
  refine wc_block ?_
  refine wc_loop (ι := (Array Nat)) (fun seen => [(0, .pointer (some ⟨b, 0, none⟩)), (2, .pointer (some ⟨b1, 0, none⟩)), (3, .string (hdB ws)), (10, .pointer (some ⟨b5, 0, none⟩))]) (fun seen => [.obj b5 (.mapIter (some bm) formsL.length seen formsL.length), .obj bm (mobj .i64 formsL), old w_3]) (fun seen => ∀ m, m ∈ seen → ¬ wordIs (hdB ws) m) (fun seen => muS seen) #[] (fun m hm => absurd hm (by simp)) ⟨List.forall_mem_cons.2 ⟨rfl, List.forall_mem_cons.2 ⟨rfl, List.forall_mem_cons.2 ⟨rfl, List.forall_mem_cons.2 ⟨rfl, fun _ h => (by cases h)⟩⟩⟩⟩, List.Sublist.refl _⟩ ?_
  rintro seen hseen
  refine wc_seq ?_
  refine wc_region ?_
  refine wl_next (i := 1) (j := 0) rfl rfl rfl (by decide) rfl rfl rfl (fun hall => ?_) (fun m y u hm hns => ?_)
  · skip
    have hkn := kind_none (s := hdB ws) (fun m hm => hseen m (hall m hm))
    refine wl_q (q_extract rfl rfl rfl) rfl rfl (by decide) ?_
    refine wl_nil ?_
    refine fq_then ?_
    refine wc_seq ?_
    refine wc_false rfl ?_
    refine wc_exit ?_
    refine fq_then_exit ?_
    refine fq_then_exit ?_
    refine fq_block_hit ?_
    refine fq_then ?_
    refine wc_seq ?_
    skip
    refine wc_region ?_
    refine wl_q (q_move rfl rfl) rfl rfl (by decide) ?_
    refine wl_q (q_nilCheck rfl rfl) rfl rfl (by decide) ?_
    refine wl_q (q_fa (o1 := 1) rfl rfl Fo65_1 rfl) rfl rfl (by decide) ?_
    refine wl_ground (fun w_6 Hn_ => ?_)
    have hx_ := Hn_.toBelow (by simp)
    have fb_b := fb_b.below hx_
    have hs := hs.below hx_
    have hL := hL.below hx_
    have fb_b1 := fb_b1.below hx_
    have hs_q1 := hs_q1.below hx_
    have hU := hU.below_r hx_
    refine wl_storeK fb_b rfl rfl rfl rfl rfl Sz4 rfl rfl (by first | (simp; done) | (simp [Value.oneCell', rdc]; done)) (by simp [Value.oneCell', rdc]) (by first | rfl | (simp only [List.take_succ_cons, List.take_zero, List.take_nil, List.drop_succ_cons, List.drop_zero, List.drop_nil, List.nil_append, List.cons_append, List.append_nil, List.length_cons, List.length_nil, Nat.reduceAdd, Nat.zero_add]; rfl)) (fun wa_7 w_8 Hn_ hu_ => ?_)
    have hx_ := Hn_.toBelow (by simp)
    have fb_b := fb_b.below hx_
    have hs := hs.below hx_
    have hL := hL.below hx_
    have fb_b1 := fb_b1.below hx_
    have hs_q1 := hs_q1.below hx_
    have hU := hU.below_r hx_
    have hU := hU.trans hu_
    have fb_b := hu_.now
    have hs := hs.upd hu_
    have hL := hL.upd hu_
    have fb_b1 := hu_.blkN fb_b1 (Ne.symm hne_b_b1)
    have hs_q1 := hs_q1.upd hu_
    refine wl_nil ?_
    refine fq_then ?_
    refine wc_seq ?_
    refine wc_region ?_
    refine wl_q (q_build rfl rfl (built_of Zr49 Pl49 (by simp only [fillL, List.map_cons, List.map_nil, Value.cells, List.getElem?_cons_zero, List.getElem?_cons_succ, List.length_cons, List.length_nil, Nat.reduceAdd, Nat.reduceLeDiff, Nat.le_refl, and_self, and_true, true_and, if_true, Nat.zero_add, spl, List.take_succ_cons, List.take_zero, List.take_nil, List.drop_succ_cons, List.drop_zero, List.drop_nil, List.nil_append, List.cons_append, List.append_nil] <;> rfl))) rfl rfl (by decide) ?_
    refine wl_storeK fb_b1 rfl rfl rfl rfl rfl Sz49 rfl rfl (by first | (simp; done) | (simp [Value.oneCell', rdc]; done)) (by simp [Value.oneCell', rdc]) (by first | rfl | (simp only [List.take_succ_cons, List.take_zero, List.take_nil, List.drop_succ_cons, List.drop_zero, List.drop_nil, List.nil_append, List.cons_append, List.append_nil, List.length_cons, List.length_nil, Nat.reduceAdd, Nat.zero_add]; rfl)) (fun wa_9 w_10 Hn_ hu_ => ?_)
    have hx_ := Hn_.toBelow (by simp)
    have fb_b := fb_b.below hx_
    have hs := hs.below hx_
    have hL := hL.below hx_
    have fb_b1 := fb_b1.below hx_
    have hs_q1 := hs_q1.below hx_
    have hU := hU.below_r hx_
    have hU := hU.new hu_ hnb_b1 (by decide)
    have fb_b := hu_.blkN fb_b hne_b_b1
    have hs := hs.updI hu_ (by intro k x; rcases k with _ | _ | _ | k <;> simp)
    have hL := Lw.updN hL0 hL hu_ hnb_b1
    have fb_b1 := hu_.now
    have hs_q1 := hs_q1.updI hu_ (by intro k x; rcases k with _ | _ | _ | k <;> simp)
    refine wl_nil ?_
    refine fq_then ?_
    refine wc_ret ?_
    refine fq_scope (.inr rfl) ?_
    refine fq_cellK (.inl rfl) rfl rfl (by simp) fb_b1 Mn49 Sz49 rfl (fun w1 H => ?_)
    refine ⟨(q1, ⟨0, 0, 0⟩), rfl, ⟨⟨?_, ?_⟩, EvC.no hkn⟩, ?_⟩
    · show StrsG _ _ _ (evRest ws); rw [evRest, hkn]; exact hs_q1.below (H.toBelow (by simp))
    · show (evRest ws).length ≤ _; rw [evRest, hkn]; exact hc_q1
    · have hU2 := hU.below_r (H.toBelow (by simp))
      show Upd b 65 _ (rdc _ (evRest ws).length (evBad bad ws)) _ _
      rw [evRest, evBad, hkn]; exact hU2
  · skip
    obtain ⟨wd, c1, n1, hfm, rfl, rfl, hm7, hkd⟩ := forms_at hm
    refine wl_q (q_extract rfl rfl rfl) rfl rfl (by decide) ?_
    refine wl_nil ?_
    refine fq_then ?_
    refine wc_seq ?_
    refine wc_true rfl ?_
    refine wc_skip ?_
    refine fq_then ?_
    refine wc_block ?_
    refine wc_seq ?_
    refine wc_region ?_
    refine wl_q (q_entry (i := 1) (j := 0) rfl rfl rfl rfl hm) rfl rfl (by decide) ?_
    refine wl_q (q_extract rfl rfl rfl) rfl rfl (by decide) ?_
    refine wl_q (q_extract rfl rfl rfl) rfl rfl (by decide) ?_
    refine wl_alloc rfl rfl rfl (by decide) Zr58 (fun b11 => ?_)
    refine wl_q (q_assign rfl rfl) rfl rfl (by decide) ?_
    refine wl_store (i := 0) rfl rfl rfl rfl rfl rfl Sz58 rfl rfl (by simp) (by simp [Value.oneCell', rdc]) (by first | (simp only [List.take_succ_cons, List.take_zero, List.take_nil, List.drop_succ_cons, List.drop_zero, List.drop_nil, List.nil_append, List.cons_append, List.append_nil, List.length_cons, List.length_nil, Nat.reduceAdd, Nat.zero_add]; rfl) | rfl) (by first | (simp only [List.set_cons_zero, List.set_cons_succ]; rfl) | rfl) ?_
    refine wl_nil ?_
    refine fq_then ?_
    refine wc_seq ?_
    refine wc_seq ?_
    refine wc_region ?_
    refine wl_q (q_fa (o1 := 0) rfl rfl Fo58_0 rfl) rfl rfl (by decide) ?_
    refine wl_q (q_load rfl rfl Mn9 (reads1 (i := 0) rfl rfl)) rfl rfl (by decide) ?_
    refine wl_q (q_move rfl rfl) rfl rfl (by decide) ?_
    refine wl_q (q_eqlStr rfl (.inr ⟨rfl, rfl⟩) rfl rfl (fun w => rfl)) rfl rfl (by decide) ?_
    refine wl_nil ?_
    refine fq_then ?_
    refine wc_cond rfl (fun h19 => ?_) (fun h19 => ?_)
    · skip
      refine wc_exit ?_
      refine fq_then_exit ?_
      refine fq_block_hit ?_
      refine fq_next (seen.push m) (fun k hk => by
          rcases Array.mem_push.1 hk with hk | rfl
          · exact hseen k hk
          · intro hw
            have := hw _ _ _ hfm
            rw [this] at h19
            simp at h19) (muS_push hm7 hns) ⟨List.forall_mem_cons.2 ⟨rfl, List.forall_mem_cons.2 ⟨rfl, List.forall_mem_cons.2 ⟨rfl, List.forall_mem_cons.2 ⟨rfl, fun _ h => (by cases h)⟩⟩⟩⟩, List.Sublist.cons _ (List.Sublist.cons_cons _ (List.Sublist.cons_cons _ (List.Sublist.cons_cons _ (List.Sublist.refl []))))⟩
    · skip
      have hk : kindOf (hdB ws) = some ((m : Int), c1, n1) := hkd (hdB ws) (by simpa using h19)
      refine wc_skip ?_
      refine fq_then ?_
      refine wc_seq ?_
      refine wc_region ?_
      refine wl_q (q_move rfl rfl) rfl rfl (by decide) ?_
      refine wl_q (q_build rfl rfl (built_of Zr49 Pl49 (by simp only [fillL, List.map_cons, List.map_nil, Value.cells, List.getElem?_cons_zero, List.getElem?_cons_succ, List.length_cons, List.length_nil, Nat.reduceAdd, Nat.reduceLeDiff, Nat.le_refl, and_self, and_true, true_and, if_true, Nat.zero_add, spl, List.take_succ_cons, List.take_zero, List.take_nil, List.drop_succ_cons, List.drop_zero, List.drop_nil, List.nil_append, List.cons_append, List.append_nil] <;> rfl))) rfl rfl (by decide) ?_
      refine wl_alloc rfl rfl rfl (by decide) Zr49 (fun b12 => ?_)
      refine wl_store (i := 0) rfl rfl rfl rfl rfl rfl Sz49 rfl rfl (by simp) (by simp [Value.oneCell', rdc]) (by first | (simp only [List.take_succ_cons, List.take_zero, List.take_nil, List.drop_succ_cons, List.drop_zero, List.drop_nil, List.nil_append, List.cons_append, List.append_nil, List.length_cons, List.length_nil, Nat.reduceAdd, Nat.zero_add]; rfl) | rfl) (by first | (simp only [List.set_cons_zero, List.set_cons_succ]; rfl) | rfl) ?_
      refine wl_nil ?_
      refine fq_then ?_
      refine wc_seq ?_
      refine wc_seq ?_
      refine wc_region ?_
      refine wl_q (q_fa (o1 := 1) rfl rfl Fo58_1 rfl) rfl rfl (by decide) ?_
      refine wl_q (q_load rfl rfl Mn4 (reads1 (i := 1) rfl rfl)) rfl rfl (by decide) ?_
      refine wl_nil ?_
      refine fq_then ?_
      refine wc_cond rfl (fun h23 => ?_) (fun h23 => ?_)
      · skip
        subst h23
        refine wc_region ?_
        refine wl_q (q_move rfl rfl) rfl rfl (by decide) ?_
        refine wl_ground (fun w_15 Hn_ => ?_)
        have hx_ := Hn_.toBelow (by simp)
        have fb_b12 : Blk w_15 b12 _ _ := Hn_.get (i := 0) rfl
        have hne_b_b12 := Nat.ne_of_lt (Nat.lt_of_lt_of_le fb_b.lt (Hn_.apart_oldR (i := 0) (j := 4) rfl rfl (by decide)))
        have hne_b1_b12 := Nat.ne_of_lt (Nat.lt_of_lt_of_le fb_b1.lt (Hn_.apart_oldR (i := 0) (j := 4) rfl rfl (by decide)))
        have hnb_b12 := Nat.le_trans hU.size (Hn_.apart_oldR (i := 0) (j := 4) rfl rfl (by decide))
        have fb_b11 : Blk w_15 b11 _ _ := Hn_.get (i := 1) rfl
        have hne_b_b11 := Nat.ne_of_lt (Nat.lt_of_lt_of_le fb_b.lt (Hn_.apart_oldR (i := 1) (j := 4) rfl rfl (by decide)))
        have hne_b1_b11 := Nat.ne_of_lt (Nat.lt_of_lt_of_le fb_b1.lt (Hn_.apart_oldR (i := 1) (j := 4) rfl rfl (by decide)))
        have hnb_b11 := Nat.le_trans hU.size (Hn_.apart_oldR (i := 1) (j := 4) rfl rfl (by decide))
        have fb_b := fb_b.below hx_
        have hs := hs.below hx_
        have hL := hL.below hx_
        have fb_b1 := fb_b1.below hx_
        have hs_q1 := hs_q1.below hx_
        have hU := hU.below_r hx_
        refine wl_callU (ι := (Gh × Int)) (fun i => .int .i64 i.2) (fun i => rdc i.1 ws.tail.tail.length (numBad (bad || ws.isEmpty) ws.tail)) (fun i w w' => (StrsG gw w' i.1.1 ws.tail.tail ∧ ws.tail.tail.length ≤ i.1.2) ∧ i64r i.2 ∧ ∀ v, numP (hdB ws.tail) = some v → i.2 = v) fb_b rfl rfl rfl (by decide) En25 rfl (fun w1 hw1 => (num_calls b q1 ws.tail (bad || ws.isEmpty) w1 (hL.below (hw1.toBelow (by simp))) (fb_b.below (hw1.toBelow (by simp))) (hs_q1.below (hw1.toBelow (by simp))) hc_q1 (hd_sz (fun x hx => hsz x (List.mem_of_mem_tail hx)))).mono (fun e w' ⟨i, h1, h2, h3⟩ => ⟨i, h2, h1, h3⟩)) (fun ⟨q2, v_q2⟩ wa_13 w_14 Hn_ hu_ hC_ => ?_)
        have hx_ := Hn_.toBelow (by simp)
        have fb_b := fb_b.below hx_
        have hs := hs.below hx_
        have hL := hL.below hx_
        have fb_b1 := fb_b1.below hx_
        have hs_q1 := hs_q1.below hx_
        have fb_b12 := fb_b12.below hx_
        have fb_b11 := fb_b11.below hx_
        have hU := hU.below_r hx_
        have hU := hU.trans hu_
        have fb_b := hu_.now
        have hs := hs.upd hu_
        have hL := hL.upd hu_
        have fb_b1 := hu_.blkN fb_b1 (Ne.symm hne_b_b1)
        have hs_q1 := hs_q1.upd hu_
        have fb_b12 := hu_.blkN fb_b12 (Ne.symm hne_b_b12)
        have fb_b11 := hu_.blkN fb_b11 (Ne.symm hne_b_b11)
        obtain ⟨⟨hs_q2, hc_q2⟩, hr_q2, hv_q2⟩ := hC_
        refine wl_q (q_fa (o1 := 1) rfl rfl Fo49_1 rfl) rfl rfl (by decide) ?_
        refine wl_storeK fb_b12 rfl rfl rfl rfl rfl Sz3 rfl rfl (by first | (simp; done) | (simp [Value.oneCell', rdc]; done)) (by simp [Value.oneCell', rdc]) (by first | rfl | (simp only [List.take_succ_cons, List.take_zero, List.take_nil, List.drop_succ_cons, List.drop_zero, List.drop_nil, List.nil_append, List.cons_append, List.append_nil, List.length_cons, List.length_nil, Nat.reduceAdd, Nat.zero_add]; rfl)) (fun wa_16 w_17 Hn_ hu_ => ?_)
        have hx_ := Hn_.toBelow (by simp)
        have fb_b := fb_b.below hx_
        have hs := hs.below hx_
        have hL := hL.below hx_
        have fb_b1 := fb_b1.below hx_
        have hs_q1 := hs_q1.below hx_
        have fb_b12 := fb_b12.below hx_
        have fb_b11 := fb_b11.below hx_
        have hs_q2 := hs_q2.below hx_
        have hU := hU.below_r hx_
        have hU := hU.new hu_ hnb_b12 (by decide)
        have fb_b := hu_.blkN fb_b hne_b_b12
        have hs := hs.updI hu_ (by intro k x; rcases k with _ | _ | _ | k <;> simp)
        have hL := Lw.updN hL0 hL hu_ hnb_b12
        have fb_b1 := hu_.blkN fb_b1 hne_b1_b12
        have hs_q1 := hs_q1.updI hu_ (by intro k x; rcases k with _ | _ | _ | k <;> simp)
        have fb_b12 := hu_.now
        have fb_b11 := hu_.blk fb_b11 (by decide)
        have hs_q2 := hs_q2.updI hu_ (by intro k x; rcases k with _ | _ | _ | k <;> simp)
        refine wl_nil ?_
        refine fq_then ?_
        refine wc_seq ?_
        refine wc_seq ?_
        refine wc_region ?_
        refine wl_q (q_fa (o1 := 2) rfl rfl Fo58_2 rfl) rfl rfl (by decide) ?_
        refine wl_q (q_load rfl rfl Mn4 (reads_blk (by simp) fb_b11 rfl)) rfl rfl (by decide) ?_
        refine wl_nil ?_
        refine fq_then ?_
        refine wc_cond rfl (fun h28 => ?_) (fun h28 => ?_)
        · skip
          subst h28
          refine wc_region ?_
          refine wl_q (q_move rfl rfl) rfl rfl (by decide) ?_
          refine wl_callU (ι := (Gh × Int)) (fun i => .int .i64 i.2) (fun i => rdc i.1 ws.tail.tail.tail.length (numBad (numBad (bad || ws.isEmpty) ws.tail) ws.tail.tail)) (fun i w w' => (StrsG gw w' i.1.1 ws.tail.tail.tail ∧ ws.tail.tail.tail.length ≤ i.1.2) ∧ i64r i.2 ∧ ∀ v, numP (hdB ws.tail.tail) = some v → i.2 = v) fb_b rfl rfl rfl (by decide) En25 rfl (fun w1 hw1 => (num_calls b q2 ws.tail.tail (numBad (bad || ws.isEmpty) ws.tail) w1 (hL.below (hw1.toBelow (by simp))) (fb_b.below (hw1.toBelow (by simp))) (hs_q2.below (hw1.toBelow (by simp))) hc_q2 (hd_sz (fun x hx => hsz x (List.mem_of_mem_tail (List.mem_of_mem_tail hx))))).mono (fun e w' ⟨i, h1, h2, h3⟩ => ⟨i, h2, h1, h3⟩)) (fun ⟨q3, v_q3⟩ wa_18 w_19 Hn_ hu_ hC_ => ?_)
          have hx_ := Hn_.toBelow (by simp)
          have fb_b := fb_b.below hx_
          have hs := hs.below hx_
          have hL := hL.below hx_
          have fb_b1 := fb_b1.below hx_
          have hs_q1 := hs_q1.below hx_
          have fb_b12 := fb_b12.below hx_
          have fb_b11 := fb_b11.below hx_
          have hs_q2 := hs_q2.below hx_
          have hU := hU.below_r hx_
          have hU := hU.trans hu_
          have fb_b := hu_.now
          have hs := hs.upd hu_
          have hL := hL.upd hu_
          have fb_b1 := hu_.blkN fb_b1 (Ne.symm hne_b_b1)
          have hs_q1 := hs_q1.upd hu_
          have fb_b12 := hu_.blkN fb_b12 (Ne.symm hne_b_b12)
          have fb_b11 := hu_.blkN fb_b11 (Ne.symm hne_b_b11)
          have hs_q2 := hs_q2.upd hu_
          obtain ⟨⟨hs_q3, hc_q3⟩, hr_q3, hv_q3⟩ := hC_
          refine wl_q (q_fa (o1 := 2) rfl rfl Fo49_2 rfl) rfl rfl (by decide) ?_
          refine wl_storeK fb_b12 rfl rfl rfl rfl rfl Sz3 rfl rfl (by first | (simp; done) | (simp [Value.oneCell', rdc]; done)) (by simp [Value.oneCell', rdc]) (by first | rfl | (simp only [List.take_succ_cons, List.take_zero, List.take_nil, List.drop_succ_cons, List.drop_zero, List.drop_nil, List.nil_append, List.cons_append, List.append_nil, List.length_cons, List.length_nil, Nat.reduceAdd, Nat.zero_add]; rfl)) (fun wa_20 w_21 Hn_ hu_ => ?_)
          have hx_ := Hn_.toBelow (by simp)
          have fb_b := fb_b.below hx_
          have hs := hs.below hx_
          have hL := hL.below hx_
          have fb_b1 := fb_b1.below hx_
          have hs_q1 := hs_q1.below hx_
          have fb_b12 := fb_b12.below hx_
          have fb_b11 := fb_b11.below hx_
          have hs_q2 := hs_q2.below hx_
          have hs_q3 := hs_q3.below hx_
          have hU := hU.below_r hx_
          have hU := hU.new hu_ hnb_b12 (by decide)
          have fb_b := hu_.blkN fb_b hne_b_b12
          have hs := hs.updI hu_ (by intro k x; rcases k with _ | _ | _ | k <;> simp)
          have hL := Lw.updN hL0 hL hu_ hnb_b12
          have fb_b1 := hu_.blkN fb_b1 hne_b1_b12
          have hs_q1 := hs_q1.updI hu_ (by intro k x; rcases k with _ | _ | _ | k <;> simp)
          have fb_b12 := hu_.now
          have fb_b11 := hu_.blk fb_b11 (by decide)
          have hs_q2 := hs_q2.updI hu_ (by intro k x; rcases k with _ | _ | _ | k <;> simp)
          have hs_q3 := hs_q3.updI hu_ (by intro k x; rcases k with _ | _ | _ | k <;> simp)
          refine wl_nil ?_
          refine fq_then ?_
          refine wc_seq ?_
          refine wc_region ?_
          refine wl_q (q_loadA rfl rfl Mn49 Sz49 rfl (reads_blkA (by simp) fb_b12)) rfl rfl (by decide) ?_
          refine wl_storeK fb_b1 rfl rfl rfl rfl rfl Sz49 rfl rfl (by first | (simp; done) | (simp [Value.oneCell', rdc]; done)) (by simp [Value.oneCell', rdc]) (by first | rfl | (simp only [List.take_succ_cons, List.take_zero, List.take_nil, List.drop_succ_cons, List.drop_zero, List.drop_nil, List.nil_append, List.cons_append, List.append_nil, List.length_cons, List.length_nil, Nat.reduceAdd, Nat.zero_add]; rfl)) (fun wa_22 w_23 Hn_ hu_ => ?_)
          have hx_ := Hn_.toBelow (by simp)
          have fb_b := fb_b.below hx_
          have hs := hs.below hx_
          have hL := hL.below hx_
          have fb_b1 := fb_b1.below hx_
          have hs_q1 := hs_q1.below hx_
          have fb_b12 := fb_b12.below hx_
          have fb_b11 := fb_b11.below hx_
          have hs_q2 := hs_q2.below hx_
          have hs_q3 := hs_q3.below hx_
          have hU := hU.below_r hx_
          have hU := hU.new hu_ hnb_b1 (by decide)
          have fb_b := hu_.blkN fb_b hne_b_b1
          have hs := hs.updI hu_ (by intro k x; rcases k with _ | _ | _ | k <;> simp)
          have hL := Lw.updN hL0 hL hu_ hnb_b1
          have fb_b1 := hu_.now
          have hs_q1 := hs_q1.updI hu_ (by intro k x; rcases k with _ | _ | _ | k <;> simp)
          have fb_b12 := hu_.blkN fb_b12 (Ne.symm hne_b1_b12)
          have fb_b11 := hu_.blkN fb_b11 (Ne.symm hne_b1_b11)
          have hs_q2 := hs_q2.updI hu_ (by intro k x; rcases k with _ | _ | _ | k <;> simp)
          have hs_q3 := hs_q3.updI hu_ (by intro k x; rcases k with _ | _ | _ | k <;> simp)
          refine wl_nil ?_
          refine fq_then ?_
          refine wc_ret ?_
          refine fq_block_ret ?_
          refine fq_then_ret ?_
          refine fq_block_ret ?_
          refine fq_then_ret ?_
          refine fq_scope (.inr rfl) ?_
          refine fq_cellK (.inl rfl) rfl rfl (by simp) fb_b1 Mn49 Sz49 rfl (fun w1 H => ?_)
          refine ⟨(q3, ⟨(m : Int), v_q2, v_q3⟩), rfl, ⟨⟨?_, ?_⟩, EvC.mk hk ⟨rfl, fun _ => ⟨hr_q2, hv_q2⟩, (fun h => by cases h), fun _ => ⟨hr_q3, hv_q3⟩, fun h => by cases h⟩⟩, ?_⟩
          · show StrsG _ _ _ (evRest ws); rw [evRest, hk]; exact hs_q3.below (H.toBelow (by simp))
          · show (evRest ws).length ≤ _; rw [evRest, hk]; exact hc_q3
          · have hU2 := hU.below_r (H.toBelow (by simp))
            show Upd b 65 _ (rdc _ (evRest ws).length (evBad bad ws)) _ _
            rw [evRest, evBad, hk]; exact hU2
        · skip
          subst h28
          refine wc_skip ?_
          refine fq_then ?_
          refine wc_seq ?_
          refine wc_region ?_
          refine wl_q (q_loadA rfl rfl Mn49 Sz49 rfl (reads_blkA (by simp) fb_b12)) rfl rfl (by decide) ?_
          refine wl_storeK fb_b1 rfl rfl rfl rfl rfl Sz49 rfl rfl (by first | (simp; done) | (simp [Value.oneCell', rdc]; done)) (by simp [Value.oneCell', rdc]) (by first | rfl | (simp only [List.take_succ_cons, List.take_zero, List.take_nil, List.drop_succ_cons, List.drop_zero, List.drop_nil, List.nil_append, List.cons_append, List.append_nil, List.length_cons, List.length_nil, Nat.reduceAdd, Nat.zero_add]; rfl)) (fun wa_24 w_25 Hn_ hu_ => ?_)
          have hx_ := Hn_.toBelow (by simp)
          have fb_b := fb_b.below hx_
          have hs := hs.below hx_
          have hL := hL.below hx_
          have fb_b1 := fb_b1.below hx_
          have hs_q1 := hs_q1.below hx_
          have fb_b12 := fb_b12.below hx_
          have fb_b11 := fb_b11.below hx_
          have hs_q2 := hs_q2.below hx_
          have hU := hU.below_r hx_
          have hU := hU.new hu_ hnb_b1 (by decide)
          have fb_b := hu_.blkN fb_b hne_b_b1
          have hs := hs.updI hu_ (by intro k x; rcases k with _ | _ | _ | k <;> simp)
          have hL := Lw.updN hL0 hL hu_ hnb_b1
          have fb_b1 := hu_.now
          have hs_q1 := hs_q1.updI hu_ (by intro k x; rcases k with _ | _ | _ | k <;> simp)
          have fb_b12 := hu_.blkN fb_b12 (Ne.symm hne_b1_b12)
          have fb_b11 := hu_.blkN fb_b11 (Ne.symm hne_b1_b11)
          have hs_q2 := hs_q2.updI hu_ (by intro k x; rcases k with _ | _ | _ | k <;> simp)
          refine wl_nil ?_
          refine fq_then ?_
          refine wc_ret ?_
          refine fq_block_ret ?_
          refine fq_then_ret ?_
          refine fq_block_ret ?_
          refine fq_then_ret ?_
          refine fq_scope (.inr rfl) ?_
          refine fq_cellK (.inl rfl) rfl rfl (by simp) fb_b1 Mn49 Sz49 rfl (fun w1 H => ?_)
          refine ⟨(q2, ⟨(m : Int), v_q2, 0⟩), rfl, ⟨⟨?_, ?_⟩, EvC.mk hk ⟨rfl, fun _ => ⟨hr_q2, hv_q2⟩, (fun h => by cases h), (fun h => by cases h), fun _ => rfl⟩⟩, ?_⟩
          · show StrsG _ _ _ (evRest ws); rw [evRest, hk]; exact hs_q2.below (H.toBelow (by simp))
          · show (evRest ws).length ≤ _; rw [evRest, hk]; exact hc_q2
          · have hU2 := hU.below_r (H.toBelow (by simp))
            show Upd b 65 _ (rdc _ (evRest ws).length (evBad bad ws)) _ _
            rw [evRest, evBad, hk]; exact hU2
      · skip
        subst h23
        refine wc_skip ?_
        refine fq_then ?_
        refine wc_seq ?_
        refine wc_seq ?_
        refine wc_region ?_
        refine wl_q (q_fa (o1 := 2) rfl rfl Fo58_2 rfl) rfl rfl (by decide) ?_
        refine wl_q (q_load rfl rfl Mn4 (reads1 (i := 1) rfl rfl)) rfl rfl (by decide) ?_
        refine wl_nil ?_
        refine fq_then ?_
        refine wc_cond rfl (fun h28 => ?_) (fun h28 => ?_)
        · skip
          subst h28
          refine wc_region ?_
          refine wl_q (q_move rfl rfl) rfl rfl (by decide) ?_
          refine wl_ground (fun w_28 Hn_ => ?_)
          have hx_ := Hn_.toBelow (by simp)
          have fb_b12 : Blk w_28 b12 _ _ := Hn_.get (i := 0) rfl
          have hne_b_b12 := Nat.ne_of_lt (Nat.lt_of_lt_of_le fb_b.lt (Hn_.apart_oldR (i := 0) (j := 4) rfl rfl (by decide)))
          have hne_b1_b12 := Nat.ne_of_lt (Nat.lt_of_lt_of_le fb_b1.lt (Hn_.apart_oldR (i := 0) (j := 4) rfl rfl (by decide)))
          have hnb_b12 := Nat.le_trans hU.size (Hn_.apart_oldR (i := 0) (j := 4) rfl rfl (by decide))
          have fb_b11 : Blk w_28 b11 _ _ := Hn_.get (i := 1) rfl
          have hne_b_b11 := Nat.ne_of_lt (Nat.lt_of_lt_of_le fb_b.lt (Hn_.apart_oldR (i := 1) (j := 4) rfl rfl (by decide)))
          have hne_b1_b11 := Nat.ne_of_lt (Nat.lt_of_lt_of_le fb_b1.lt (Hn_.apart_oldR (i := 1) (j := 4) rfl rfl (by decide)))
          have hnb_b11 := Nat.le_trans hU.size (Hn_.apart_oldR (i := 1) (j := 4) rfl rfl (by decide))
          have fb_b := fb_b.below hx_
          have hs := hs.below hx_
          have hL := hL.below hx_
          have fb_b1 := fb_b1.below hx_
          have hs_q1 := hs_q1.below hx_
          have hU := hU.below_r hx_
          refine wl_callU (ι := (Gh × Int)) (fun i => .int .i64 i.2) (fun i => rdc i.1 ws.tail.tail.length (numBad (bad || ws.isEmpty) ws.tail)) (fun i w w' => (StrsG gw w' i.1.1 ws.tail.tail ∧ ws.tail.tail.length ≤ i.1.2) ∧ i64r i.2 ∧ ∀ v, numP (hdB ws.tail) = some v → i.2 = v) fb_b rfl rfl rfl (by decide) En25 rfl (fun w1 hw1 => (num_calls b q1 ws.tail (bad || ws.isEmpty) w1 (hL.below (hw1.toBelow (by simp))) (fb_b.below (hw1.toBelow (by simp))) (hs_q1.below (hw1.toBelow (by simp))) hc_q1 (hd_sz (fun x hx => hsz x (List.mem_of_mem_tail hx)))).mono (fun e w' ⟨i, h1, h2, h3⟩ => ⟨i, h2, h1, h3⟩)) (fun ⟨q3, v_q3⟩ wa_26 w_27 Hn_ hu_ hC_ => ?_)
          have hx_ := Hn_.toBelow (by simp)
          have fb_b := fb_b.below hx_
          have hs := hs.below hx_
          have hL := hL.below hx_
          have fb_b1 := fb_b1.below hx_
          have hs_q1 := hs_q1.below hx_
          have fb_b12 := fb_b12.below hx_
          have fb_b11 := fb_b11.below hx_
          have hU := hU.below_r hx_
          have hU := hU.trans hu_
          have fb_b := hu_.now
          have hs := hs.upd hu_
          have hL := hL.upd hu_
          have fb_b1 := hu_.blkN fb_b1 (Ne.symm hne_b_b1)
          have hs_q1 := hs_q1.upd hu_
          have fb_b12 := hu_.blkN fb_b12 (Ne.symm hne_b_b12)
          have fb_b11 := hu_.blkN fb_b11 (Ne.symm hne_b_b11)
          obtain ⟨⟨hs_q3, hc_q3⟩, hr_q3, hv_q3⟩ := hC_
          refine wl_q (q_fa (o1 := 2) rfl rfl Fo49_2 rfl) rfl rfl (by decide) ?_
          refine wl_storeK fb_b12 rfl rfl rfl rfl rfl Sz3 rfl rfl (by first | (simp; done) | (simp [Value.oneCell', rdc]; done)) (by simp [Value.oneCell', rdc]) (by first | rfl | (simp only [List.take_succ_cons, List.take_zero, List.take_nil, List.drop_succ_cons, List.drop_zero, List.drop_nil, List.nil_append, List.cons_append, List.append_nil, List.length_cons, List.length_nil, Nat.reduceAdd, Nat.zero_add]; rfl)) (fun wa_29 w_30 Hn_ hu_ => ?_)
          have hx_ := Hn_.toBelow (by simp)
          have fb_b := fb_b.below hx_
          have hs := hs.below hx_
          have hL := hL.below hx_
          have fb_b1 := fb_b1.below hx_
          have hs_q1 := hs_q1.below hx_
          have fb_b12 := fb_b12.below hx_
          have fb_b11 := fb_b11.below hx_
          have hs_q3 := hs_q3.below hx_
          have hU := hU.below_r hx_
          have hU := hU.new hu_ hnb_b12 (by decide)
          have fb_b := hu_.blkN fb_b hne_b_b12
          have hs := hs.updI hu_ (by intro k x; rcases k with _ | _ | _ | k <;> simp)
          have hL := Lw.updN hL0 hL hu_ hnb_b12
          have fb_b1 := hu_.blkN fb_b1 hne_b1_b12
          have hs_q1 := hs_q1.updI hu_ (by intro k x; rcases k with _ | _ | _ | k <;> simp)
          have fb_b12 := hu_.now
          have fb_b11 := hu_.blk fb_b11 (by decide)
          have hs_q3 := hs_q3.updI hu_ (by intro k x; rcases k with _ | _ | _ | k <;> simp)
          refine wl_nil ?_
          refine fq_then ?_
          refine wc_seq ?_
          refine wc_region ?_
          refine wl_q (q_loadA rfl rfl Mn49 Sz49 rfl (reads_blkA (by simp) fb_b12)) rfl rfl (by decide) ?_
          refine wl_storeK fb_b1 rfl rfl rfl rfl rfl Sz49 rfl rfl (by first | (simp; done) | (simp [Value.oneCell', rdc]; done)) (by simp [Value.oneCell', rdc]) (by first | rfl | (simp only [List.take_succ_cons, List.take_zero, List.take_nil, List.drop_succ_cons, List.drop_zero, List.drop_nil, List.nil_append, List.cons_append, List.append_nil, List.length_cons, List.length_nil, Nat.reduceAdd, Nat.zero_add]; rfl)) (fun wa_31 w_32 Hn_ hu_ => ?_)
          have hx_ := Hn_.toBelow (by simp)
          have fb_b := fb_b.below hx_
          have hs := hs.below hx_
          have hL := hL.below hx_
          have fb_b1 := fb_b1.below hx_
          have hs_q1 := hs_q1.below hx_
          have fb_b12 := fb_b12.below hx_
          have fb_b11 := fb_b11.below hx_
          have hs_q3 := hs_q3.below hx_
          have hU := hU.below_r hx_
          have hU := hU.new hu_ hnb_b1 (by decide)
          have fb_b := hu_.blkN fb_b hne_b_b1
          have hs := hs.updI hu_ (by intro k x; rcases k with _ | _ | _ | k <;> simp)
          have hL := Lw.updN hL0 hL hu_ hnb_b1
          have fb_b1 := hu_.now
          have hs_q1 := hs_q1.updI hu_ (by intro k x; rcases k with _ | _ | _ | k <;> simp)
          have fb_b12 := hu_.blkN fb_b12 (Ne.symm hne_b1_b12)
          have fb_b11 := hu_.blkN fb_b11 (Ne.symm hne_b1_b11)
          have hs_q3 := hs_q3.updI hu_ (by intro k x; rcases k with _ | _ | _ | k <;> simp)
          refine wl_nil ?_
          refine fq_then ?_
          refine wc_ret ?_
          refine fq_block_ret ?_
          refine fq_then_ret ?_
          refine fq_block_ret ?_
          refine fq_then_ret ?_
          refine fq_scope (.inr rfl) ?_
          refine fq_cellK (.inl rfl) rfl rfl (by simp) fb_b1 Mn49 Sz49 rfl (fun w1 H => ?_)
          refine ⟨(q3, ⟨(m : Int), 0, v_q3⟩), rfl, ⟨⟨?_, ?_⟩, EvC.mk hk ⟨rfl, (fun h => by cases h), fun _ => rfl, fun _ => ⟨hr_q3, hv_q3⟩, fun h => by cases h⟩⟩, ?_⟩
          · show StrsG _ _ _ (evRest ws); rw [evRest, hk]; exact hs_q3.below (H.toBelow (by simp))
          · show (evRest ws).length ≤ _; rw [evRest, hk]; exact hc_q3
          · have hU2 := hU.below_r (H.toBelow (by simp))
            show Upd b 65 _ (rdc _ (evRest ws).length (evBad bad ws)) _ _
            rw [evRest, evBad, hk]; exact hU2
        · skip
          subst h28
          refine wc_skip ?_
          refine fq_then ?_
          refine wc_seq ?_
          refine wc_region ?_
          refine wl_q (q_loadA rfl rfl Mn49 Sz49 rfl (readsAll (i := 0) rfl)) rfl rfl (by decide) ?_
          refine wl_ground (fun w_33 Hn_ => ?_)
          have hx_ := Hn_.toBelow (by simp)
          have fb_b12 : Blk w_33 b12 _ _ := Hn_.get (i := 0) rfl
          have hne_b_b12 := Nat.ne_of_lt (Nat.lt_of_lt_of_le fb_b.lt (Hn_.apart_oldR (i := 0) (j := 4) rfl rfl (by decide)))
          have hne_b1_b12 := Nat.ne_of_lt (Nat.lt_of_lt_of_le fb_b1.lt (Hn_.apart_oldR (i := 0) (j := 4) rfl rfl (by decide)))
          have hnb_b12 := Nat.le_trans hU.size (Hn_.apart_oldR (i := 0) (j := 4) rfl rfl (by decide))
          have fb_b11 : Blk w_33 b11 _ _ := Hn_.get (i := 1) rfl
          have hne_b_b11 := Nat.ne_of_lt (Nat.lt_of_lt_of_le fb_b.lt (Hn_.apart_oldR (i := 1) (j := 4) rfl rfl (by decide)))
          have hne_b1_b11 := Nat.ne_of_lt (Nat.lt_of_lt_of_le fb_b1.lt (Hn_.apart_oldR (i := 1) (j := 4) rfl rfl (by decide)))
          have hnb_b11 := Nat.le_trans hU.size (Hn_.apart_oldR (i := 1) (j := 4) rfl rfl (by decide))
          have fb_b := fb_b.below hx_
          have hs := hs.below hx_
          have hL := hL.below hx_
          have fb_b1 := fb_b1.below hx_
          have hs_q1 := hs_q1.below hx_
          have hU := hU.below_r hx_
          refine wl_storeK fb_b1 rfl rfl rfl rfl rfl Sz49 rfl rfl (by first | (simp; done) | (simp [Value.oneCell', rdc]; done)) (by simp [Value.oneCell', rdc]) (by first | rfl | (simp only [List.take_succ_cons, List.take_zero, List.take_nil, List.drop_succ_cons, List.drop_zero, List.drop_nil, List.nil_append, List.cons_append, List.append_nil, List.length_cons, List.length_nil, Nat.reduceAdd, Nat.zero_add]; rfl)) (fun wa_34 w_35 Hn_ hu_ => ?_)
          have hx_ := Hn_.toBelow (by simp)
          have fb_b := fb_b.below hx_
          have hs := hs.below hx_
          have hL := hL.below hx_
          have fb_b1 := fb_b1.below hx_
          have hs_q1 := hs_q1.below hx_
          have fb_b12 := fb_b12.below hx_
          have fb_b11 := fb_b11.below hx_
          have hU := hU.below_r hx_
          have hU := hU.new hu_ hnb_b1 (by decide)
          have fb_b := hu_.blkN fb_b hne_b_b1
          have hs := hs.updI hu_ (by intro k x; rcases k with _ | _ | _ | k <;> simp)
          have hL := Lw.updN hL0 hL hu_ hnb_b1
          have fb_b1 := hu_.now
          have hs_q1 := hs_q1.updI hu_ (by intro k x; rcases k with _ | _ | _ | k <;> simp)
          have fb_b12 := hu_.blkN fb_b12 (Ne.symm hne_b1_b12)
          have fb_b11 := hu_.blkN fb_b11 (Ne.symm hne_b1_b11)
          refine wl_nil ?_
          refine fq_then ?_
          refine wc_ret ?_
          refine fq_block_ret ?_
          refine fq_then_ret ?_
          refine fq_block_ret ?_
          refine fq_then_ret ?_
          refine fq_scope (.inr rfl) ?_
          refine fq_cellK (.inl rfl) rfl rfl (by simp) fb_b1 Mn49 Sz49 rfl (fun w1 H => ?_)
          refine ⟨(q1, ⟨(m : Int), 0, 0⟩), rfl, ⟨⟨?_, ?_⟩, EvC.mk hk ⟨rfl, (fun h => by cases h), fun _ => rfl, (fun h => by cases h), fun _ => rfl⟩⟩, ?_⟩
          · show StrsG _ _ _ (evRest ws); rw [evRest, hk]; exact hs_q1.below (H.toBelow (by simp))
          · show (evRest ws).length ≤ _; rw [evRest, hk]; exact hc_q1
          · have hU2 := hU.below_r (H.toBelow (by simp))
            show Upd b 65 _ (rdc _ (evRest ws).length (evBad bad ws)) _ _
            rw [evRest, evBad, hk]; exact hU2
end Go.Proofs.YtglgipggefpoiaaGreatDoor.SF
end
section
namespace Go.Proofs.YtglgipggefpoiaaGreatDoor.SF
open Go.RowKit Go.Sx Go.Proofs.YtglgipggefpoiaaGreatDoor.PAll Go.Proofs.YtglgipggefpoiaaGreatDoorW.PrintWords Go.Proofs.YtglgipggefpoiaaGreatDoorW.PrintLast Go.Proofs.YtglgipggefpoiaaGreatDoorW.PrintMore
set_option linter.unusedVariables false
set_option linter.unusedSimpArgs false
theorem upd_items {w0 w1 w' : World} {hp : List Sx.Item} {b : Nat} {T : TypeId} {cs cs' : List Value} (h : HeapOK w0 (.blk b cs T :: hp) w1) (hu : Upd b T cs cs' w1 w') : HeapOK w0 (.blk b cs' T :: hp) w' :=
  h.updAt (i := 0) (y := .blk b cs' T) rfl hu.os hu.tape hu.output hu.size (fun k hk hn => hu.other k hk hn) hu.now (fun k hk => ⟨.inl hk, by
    have : k = b := hk
    subst this
    exact hu.now.lt⟩)
theorem StrsG.move {gw : Nat} {w w' : World} {A : Option Addr} {ws : List ByteArray} (h : StrsG gw w A ws) (hm : w'.heap[gw]? = w.heap[gw]?) : StrsG gw w' A ws := fun hne => by
  obtain ⟨o, e, hc⟩ := h hne
  exact ⟨o, e, fun j x hx => by rw [cell_move (w := w) (ad := ⟨gw, o + j, none⟩) hm]; exact hc j x hx⟩
theorem Lw.move {w00 w w' : World} (h0 : Lw w00) (h : Lw w) (hm : ∀ k, k < w00.heap.size → w'.heap[k]? = w.heap[k]?) : Lw w' := by
  have go : ∀ {name : String} {c0 cs : Array Value}, w00.var? Tryz.prog name = some c0 → w.var? Tryz.prog name = some cs → w'.var? Tryz.prog name = some cs := fun {name c0 cs} h0 h => by
    obtain ⟨g, hg, hl⟩ := var_lt h0
    unfold World.var? at h ⊢
    rw [hg] at h ⊢
    simp only [Option.bind_some] at h ⊢
    rw [hm g hl]
    exact h
  obtain ⟨t1, p1, h1⟩ := h.syn
  obtain ⟨t2, p2, h2⟩ := h.ran
  obtain ⟨m, h3⟩ := h.len
  obtain ⟨_, _, g1⟩ := h0.syn
  obtain ⟨_, _, g2⟩ := h0.ran
  obtain ⟨_, g3⟩ := h0.len
  exact ⟨go h0.tab h.tab, ⟨t1, p1, go g1 h1⟩, ⟨t2, p2, go g2 h2⟩, ⟨m, by rw [cell_move (w := w) (hm _ (block_lt_of_cell g3))]; exact h3⟩⟩
def EvP (gw : Nat) (wF : World) (ws : List ByteArray) (x : Gh × S49) : Prop := (StrsG gw wF x.1.1 (evRest ws) ∧ (evRest ws).length ≤ x.1.2) ∧ EvC ws x.2
abbrev EvI (gw : Nat) (wF : World) (ws : List ByteArray) := { x : (Gh × S49) × Nat // EvP gw wF ws x.1 }
theorem rest_drop (ws : List ByteArray) : ∃ j, evRest ws = ws.drop j := by
  unfold evRest
  cases kindOf (hdB ws) with
  | none => exact ⟨1, by simp⟩
  | some x =>
    obtain ⟨k, c, n⟩ := x
    cases c <;> cases n
    · exact ⟨1, by simp⟩
    · exact ⟨2, by simp [List.drop_drop, ← List.drop_one]⟩
    · exact ⟨2, by simp [List.drop_drop, ← List.drop_one]⟩
    · exact ⟨3, by simp [List.drop_drop, ← List.drop_one]⟩
theorem rest_lt {ws : List ByteArray} (h : ws ≠ []) : (evRest ws).length < ws.length := by
  have hl := List.length_pos_iff.2 h
  unfold evRest
  cases kindOf (hdB ws) with
  | none => simp; omega
  | some x =>
    obtain ⟨k, c, n⟩ := x
    cases c <;> cases n <;> simp <;> omega
def evVal (ws : List ByteArray) : S49 := match kindOf (hdB ws) with
  | none => ⟨0, 0, 0⟩
  | some (k, c, n) => ⟨k, if c then (numP (hdB ws.tail)).getD 0 else 0, if n then (numP (hdB (if c then ws.tail.tail else ws.tail))).getD 0 else 0⟩
theorem numP_rng {s : ByteArray} {v : Int} (h : numP s = some v) : i64r v := by
  unfold numP at h
  split at h
  · rename_i u hu
    split at h
    · cases h; exact Lib.atoiAll_bounds hu
    · cases h
  · cases h
theorem numD_rng (s : ByteArray) : i64r ((numP s).getD 0) := by
  cases h : numP s with
  | none => unfold i64r; decide
  | some v => exact numP_rng h
theorem evVal_C (ws : List ByteArray) : EvC ws (evVal ws) := by
  cases hk : kindOf (hdB ws) with
  | none => unfold evVal; rw [hk]; exact EvC.no hk
  | some x =>
    obtain ⟨k, c, n⟩ := x
    have e : evVal ws = ⟨k, if c then (numP (hdB ws.tail)).getD 0 else 0, if n then (numP (hdB (if c then ws.tail.tail else ws.tail))).getD 0 else 0⟩ := by unfold evVal; rw [hk]
    rw [e]
    refine EvC.mk hk ⟨rfl, fun hc => ?_, fun hc => ?_, fun hn => ?_, fun hn => ?_⟩
    · subst hc; exact ⟨numD_rng _, fun v hv => by simp [hv]⟩
    · subst hc; rfl
    · subst hn; exact ⟨numD_rng _, fun v hv => by simp [hv]⟩
    · subst hn; rfl
theorem ev_inh {gw : Nat} {wF : World} {ws : List ByteArray} {A : Option Addr} {c : Nat} (h : StrsG gw wF A ws) (hc : ws.length ≤ c) : ∃ q : Gh, EvP gw wF ws (q, evVal ws) := by
  obtain ⟨j, hj⟩ := rest_drop ws
  by_cases hne : ws = []
  · subst hne
    exact ⟨(none, 0), ⟨by rw [hj]; intro h; simp at h, by rw [hj]; simp⟩, evVal_C _⟩
  · obtain ⟨o, e, hcl⟩ := h hne
    refine ⟨(some ⟨gw, o + j, none⟩, c), ⟨fun _ => ⟨o + j, rfl, fun i x hx => ?_⟩, ?_⟩, evVal_C _⟩
    · rw [hj, List.getElem?_drop] at hx
      rw [Nat.add_assoc]
      exact hcl (j + i) x hx
    · show (evRest ws).length ≤ c
      rw [hj, List.length_drop]; omega
theorem event_items {w00 w0 wF w1 : World} {F : Nat → Prop} {hp R : List Sx.Item} {gw b : Nat} {q : Gh} {ws : List ByteArray} {bad : Bool} (h : HeapOK w0 ([.blk b (rdc q ws.length bad) 65] ++ (R ++ hp)) w1) (hro : .ro F wF ∈ hp) (hL0 : Lw w00) (hL : Lw wF) (hF0 : ∀ k, k < w00.heap.size → F k) (hgw : F gw) (hs : StrsG gw wF q.1 ws) (hc : ws.length ≤ q.2) (hsz : ∀ x ∈ ws, x.size ≤ 1000000) :
    Calls Tryz.prog 28 #[.pointer (some ⟨b, 0, none⟩)] w1 fun e w' => ∃ x : EvI gw wF ws, e = .returned (.agg #[.int .i64 x.1.1.2.f0, .int .i64 x.1.1.2.f1, .int .i64 x.1.1.2.f2]) ∧ HeapOK w0 ([.blk b (rdc x.1.1.1 (evRest ws).length (evBad bad ws)) 65] ++ (R ++ hp)) w' := by
  have hm : ∀ k, F k → w1.heap[k]? = wF.heap[k]? := h.ok (.ro F wF) (List.mem_append_right _ (List.mem_append_right R hro))
  refine (event_calls b q ws bad w1 (hL0.move hL (fun k hk => hm k (hF0 k hk))) (h.get (i := 0) rfl) (hs.move (hm gw hgw)) hc hsz).mono ?_
  rintro e w' ⟨x, rfl, ⟨⟨h1, h2⟩, h3⟩, hu⟩
  have h4 := upd_items h hu
  have hm2 : ∀ k, F k → w'.heap[k]? = wF.heap[k]? := h4.ok (.ro F wF) (List.mem_cons_of_mem _ (List.mem_append_right R hro))
  exact ⟨⟨(x, 0), ⟨h1.move (hm2 gw hgw).symm, h2⟩, h3⟩, rfl, h4⟩
end Go.Proofs.YtglgipggefpoiaaGreatDoor.SF
end
section
namespace Go.Proofs.YtglgipggefpoiaaGreatDoor.SF
open Go.RowKit Go.Sx Go.Proofs.YtglgipggefpoiaaGreatDoor.PAll Go.Proofs.YtglgipggefpoiaaGreatDoorW.PrintWords Go.Proofs.YtglgipggefpoiaaGreatDoorW.PrintLast Go.Proofs.YtglgipggefpoiaaGreatDoorW.PrintMore
set_option linter.unusedVariables false
set_option linter.unusedSimpArgs false
def spB : ByteArray := ⟨#[32]⟩
def splW (s : ByteArray) : List ByteArray := Lib.splitB spB 0 (Lib.countB s spB) s
theorem extract_le (s : ByteArray) (a b : Nat) : (s.extract a b).size ≤ s.size := by
  simp [ByteArray.size_extract]; omega
theorem split_le (sep : ByteArray) (save : Nat) : ∀ (k : Nat) (s : ByteArray), ∀ x ∈ Lib.splitB sep save k s, x.size ≤ s.size
  | 0, s, x, hx => by rw [Lib.splitB_zero] at hx; rw [List.mem_singleton.1 hx]; exact Nat.le_refl _
  | k + 1, s, x, hx => by
    unfold Lib.splitB at hx
    split at hx
    · rw [List.mem_singleton.1 hx]; exact Nat.le_refl _
    · rcases List.mem_cons.1 hx with rfl | hx
      · exact extract_le _ _ _
      · exact Nat.le_trans (split_le sep save k _ x hx) (extract_le _ _ _)
theorem splW_le (s : ByteArray) (x : ByteArray) (h : x ∈ splW s) : x.size ≤ s.size := split_le _ _ _ _ x h
theorem splW_len (s : ByteArray) : (splW s).length = Lib.countB s spB + 1 := Lib.splitB_all spB (by decide) 0 _ s rfl
def uintP (s : ByteArray) : Option Nat := match Lib.parseUintB 64 s.data.toList with
  | .ok v => if (ubs v).toList == s.toList then some v else none
  | _ => none
theorem PuintC.ev {s : ByteArray} {n : Nat} {ev : Value} (h : PuintC s n ev) : ev = .nilIface ∨ ∃ T N, ev = .iface T (.pointer N) := by
  rcases h.2 with ⟨rfl, _⟩ | ⟨⟨N, rfl⟩, _⟩
  · exact .inl rfl
  · exact .inr ⟨_, _, rfl⟩
theorem PuintC.bad {s : ByteArray} {n : Nat} {ev : Value} (h : PuintC s n ev) (he : evErr ev = true) : uintP s = none := by
  rcases h.2 with ⟨rfl, _⟩ | ⟨_, h5⟩
  · cases he
  · unfold uintP
    split
    · rename_i v hv; exact absurd hv (h5 v)
    · rfl
theorem PuintC.good {s : ByteArray} {n : Nat} {ev : Value} (h : PuintC s n ev) (he : evErr ev = false) : uintP s = if (ubs n).toList == s.toList then some n else none := by
  rcases h.2 with ⟨rfl, h5⟩ | ⟨⟨N, rfl⟩, _⟩
  · unfold uintP; rw [h5]
  · cases he
theorem PuintC.val {s : ByteArray} {n : Nat} {ev : Value} (h : PuintC s n ev) (v : Nat) (hv : uintP s = some v) : n = v := by
  cases he : evErr ev with
  | true => rw [h.bad he] at hv; cases hv
  | false =>
    rw [h.good he] at hv
    split at hv
    · cases hv; rfl
    · cases hv
theorem PuintC.none {s : ByteArray} {n : Nat} {ev : Value} (h : PuintC s n ev) (he : evErr ev = false) : (uintP s).isNone = !((ubs n).toList == s.toList) := by
  rw [h.good he]
  cases (ubs n).toList == s.toList <;> rfl
def evsF : Nat → List ByteArray → Option (List S49)
  | _, [] => some []
  | 0, _ :: _ => none
  | k + 1, w :: ws => if evBad false (w :: ws) then none else (evsF k (evRest (w :: ws))).map (evVal (w :: ws) :: ·)
def mainsB : ByteArray := ⟨#[109, 97, 105, 110, 115]⟩
def genB : ByteArray := ⟨#[103, 101, 110]⟩
def headBad (ws : List ByteArray) : Bool := ((numBad (isBad (isBad false ws mainsB) ws.tail genB) ws.tail.tail || ws.tail.tail.tail.isEmpty) || (uintP (hdB ws.tail.tail.tail)).isNone)
def tickW (ws : List ByteArray) : Option (Bool × Bool × Int × Nat × List S49) := if ws.length < 4 then none else if headBad ws then none else
  (evsF ws.length ws.tail.tail.tail.tail).map fun L => ((hdB ws).toList == mainsB.toList, (hdB ws.tail).toList == genB.toList, (numP (hdB ws.tail.tail)).getD 0, (uintP (hdB ws.tail.tail.tail)).getD 0, L)
def tickP (s : ByteArray) : (Bool × Bool × Int × Nat × List S49) × Int := if 4096 < s.size then ((false, false, 0, 0, []), 13) else match tickW (splW s) with
  | none => ((false, false, 0, 0, []), 11)
  | some t => (t, 0)
theorem evVal_of {ws : List ByteArray} {e : S49} (h : EvC ws e) (hb : evBad false ws = false) : e = evVal ws := by
  unfold evBad at hb
  cases hk : kindOf (hdB ws) with
  | none => rw [hk] at hb; cases hb
  | some x =>
    obtain ⟨k, c, n⟩ := x
    rw [hk] at hb
    obtain ⟨h0, h1, h2, h3, h4⟩ := h.2 k c n hk
    have ev : evVal ws = ⟨k, if c then (numP (hdB ws.tail)).getD 0 else 0, if n then (numP (hdB (if c then ws.tail.tail else ws.tail))).getD 0 else 0⟩ := by unfold evVal; rw [hk]
    rw [ev]
    have key : ∀ {b : Bool} {w : List ByteArray}, numBad b w = false → b = false ∧ ∃ v, numP (hdB w) = some v := by
      intro b w hn
      unfold numBad at hn
      simp only [Bool.or_eq_false_iff] at hn
      cases hv : numP (hdB w) with
      | none => rw [hv] at hn; simp at hn
      | some v => exact ⟨hn.1.1, v, rfl⟩
    obtain ⟨f0, f1, f2⟩ := e
    dsimp only at h0 h1 h2 h3 h4 hb
    cases c <;> cases n <;> simp only [Bool.false_eq_true, if_false, if_true] at hb ⊢
    · rw [h0, h2 rfl, h4 rfl]
    · obtain ⟨_, v, hv⟩ := key hb
      rw [h0, h2 rfl, (h3 rfl).2 v (by simpa using hv), hv]; rfl
    · obtain ⟨_, v, hv⟩ := key hb
      rw [h0, h4 rfl, (h1 rfl).2 v hv, hv]; rfl
    · obtain ⟨hb2, v, hv⟩ := key hb
      obtain ⟨_, v2, hv2⟩ := key hb2
      rw [h0, (h1 rfl).2 v2 hv2, (h3 rfl).2 v (by simpa using hv), hv2, hv]; rfl
end Go.Proofs.YtglgipggefpoiaaGreatDoor.SF
end
section
set_option linter.unusedVariables false
set_option linter.unusedSimpArgs false
namespace Go.Proofs.YtglgipggefpoiaaGreatDoor.SF
open Go.RowKit Go.Sx Go.Proofs.YtglgipggefpoiaaGreatDoor.PAll Go.Proofs.YtglgipggefpoiaaGreatDoorW.PrintWords Go.Proofs.YtglgipggefpoiaaGreatDoorW.PrintLast Go.Proofs.YtglgipggefpoiaaGreatDoorW.PrintMore
theorem wu64 {n : Int} (h : 0 ≤ n ∧ n < 18446744073709551616) : IntKind.u64.wrap n = n := by
  simp only [IntKind.wrap, IntKind.signed, IntKind.bits]; simp; omega
end Go.Proofs.YtglgipggefpoiaaGreatDoor.SF
end
section
set_option linter.unusedVariables false
set_option linter.unusedSimpArgs false
namespace Go.Proofs.YtglgipggefpoiaaGreatDoor.SF
open Go.RowKit Go.Sx Go.Proofs.YtglgipggefpoiaaGreatDoor.PAll Go.Proofs.YtglgipggefpoiaaGreatDoorW.PrintWords Go.Proofs.YtglgipggefpoiaaGreatDoorW.PrintLast Go.Proofs.YtglgipggefpoiaaGreatDoorW.PrintMore
def to45 (e : S49) : S45 := ⟨e.f0, e.f1, e.f2⟩
def sp : ByteArray := ⟨#[32]⟩
theorem kind_ev (k : Int) : paternosterref24_Kind.f k = some ((formAt k).getD (⟨#[]⟩, false, false)) := by
  unfold paternosterref24_Kind.f formAt
  repeat (split; · rfl)
  rfl
theorem ibs_size {x : Int} (h : i64r x) : (ibs x).size ≤ 21 := by
  have := itoa_len h
  simpa [ibs, ByteArray.size] using this
theorem ubs_size {x : Nat} (h : x < 18446744073709551616) : (ubs x).size ≤ 20 := by
  have := u_len h
  simpa [ubs, ByteArray.size] using this
end Go.Proofs.YtglgipggefpoiaaGreatDoor.SF
end
section
namespace Go.Proofs.YtglgipggefpoiaaGreatDoor.PAll
open Go.RowKit Go.Proofs.YtglgipggefpoiaaGreatDoorW.PrintWords Go.Proofs.YtglgipggefpoiaaGreatDoorW.PrintLast Go.Proofs.YtglgipggefpoiaaGreatDoorW.PrintMore
attribute [local go_sem] max2_int min2_int max_two min_two max_three min_three max_four min_four
set_option linter.unusedVariables false
set_option linter.unusedSimpArgs false
def paternosterref24_Split.l0 : Nat → ByteArray → List ByteArray → ByteArray → Int → Option (List ByteArray)
  | 0, _, _, _, _ => none
  | k + 1, x0, x3, x4, x5 => if x5 < (x0.size : Int) then (if 0 ≤ x5 then (if (bt x0 x5) = 32 then (if x3.length < 8796093022208 then (paternosterref24_Split.l0 k x0 (x3 ++ [x4]) (⟨#[]⟩ : ByteArray) (wrap64 (x5 + 1))) else (none)) else (if x5 ≤ (wrap64 (x5 + 1)) then (if (wrap64 (x5 + 1)) ≤ (x0.size : Int) then (if x4.size + (x0.extract (x5 : Int).toNat ((wrap64 (x5 + 1)) : Int).toNat).size ≤ 9223372036854775807 then (paternosterref24_Split.l0 k x0 x3 (x4 ++ (x0.extract (x5 : Int).toNat ((wrap64 (x5 + 1)) : Int).toNat)) (wrap64 (x5 + 1))) else (none)) else (none)) else (none))) else (none)) else (if x3.length < 8796093022208 then (some (x3 ++ [x4])) else (none))
def paternosterref24_Split.f (k : Nat) (a0 : ByteArray) : Option (List ByteArray) := paternosterref24_Split.l0 k a0 ([] : List ByteArray) (⟨#[]⟩ : ByteArray) 0
set_option maxHeartbeats 8000000 in
set_option maxRecDepth 100000 in
theorem paternosterref24_Split.calls (k : Nat) (a0 : ByteArray) (r : List ByteArray) (w : World) (h : paternosterref24_Split.f k a0 = some r) :
    Calls Tryz.prog 29 #[.string a0] w fun e w' => ∃ v0_ : Value, e = .returned (v0_) ∧ Kd.R Kd.string 9 w' w.heap.size (fun _ => True) v0_ r ∧ Below w.heap.size w w' := by
  have HB := Aside0.mk (Below.refl w.heap.size w)
  have H : (paternosterref24_Split.l0 k a0 ([] : List ByteArray) (⟨#[]⟩ : ByteArray) 0) = some r := h
  clear h
  have H' := Aside0.mk H
  clear H
  go_enter Tryz.func29, Tryz.ntmps29
  go_wp2
  go_loopg [3, 4, 5] k (fun kq v3 v4 v5 w' => ∃ (x3_1 : List ByteArray) (x4_1 : ByteArray) (x5_1 : Int), v4 = .string x4_1 ∧ v5 = .int .i64 x5_1 ∧ Aside0 (paternosterref24_Split.l0 kq a0 x3_1 x4_1 x5_1 = some r) ∧ Aside0 (kq ≤ k) ∧ Aside0 (Kd.R Kd.string 9 w' w.heap.size (fun _ => True) v3 x3_1) ∧ Aside0 (Below w.heap.size w w'))
  case atStart => exact ⟨(([] : List ByteArray)), ((⟨#[]⟩ : ByteArray)), (0), (by first | rfl | (simp; done) | (simp [*]; done)), (by first | rfl | (simp; done) | (simp [*]; done)), H', ⟨Nat.le_refl _⟩, ⟨by first | exact Kd.R_nil _ _ _ _ _ | exact Kd.N_nil _ _ _ _ _ | exact Kd.V_nil _ _ _ _ _ | exact Kd.Q_nil _ _ _ _ _ | exact Kd.S_nil _ _ _ _ _⟩, ⟨by repeat (first | (with_reducible first | exact HB.out | apply below_alloc | apply pw_below_drewN | apply below_drew1) | exact HB.out)⟩⟩
  case round =>
    clear H'
    obtain ⟨x3_1, x4_1, x5_1, rfl, rfl, HA, HK1, HO_3, HB⟩ := hrel
    cases gk with
    | zero => exact absurd HA.out (by simp [paternosterref24_Split.l0])
    | succ k1 =>
      have H := HA.out
      clear HA
      simp only [paternosterref24_Split.l0] at H
      by_cases c2 : x5_1 < (a0.size : Int)
      · rw [if_pos c2] at H
        have c2b0 : decide (x5_1 < (a0.size : Int)) = true := decide_eq_true c2
        clear c2
        by_cases c3 : 0 ≤ x5_1
        · rw [if_pos c3] at H
          have c3b0 : decide (0 ≤ x5_1) = true := decide_eq_true c3
          clear c3
          by_cases c5 : (bt a0 x5_1) = 32
          · rw [if_pos c5] at H
            have c5b0 : ((bt a0 x5_1) == 32) = true := beq_iff_eq.mpr c5
            have c5b1 : ((bt a0 x5_1) != 32) = false := bne_eq_false_iff_eq.mpr c5
            clear c5
            by_cases c6 : x3_1.length < 8796093022208
            · rw [if_pos c6] at H
              have LMc6 := Aside0.mk c6
              clear c6
              obtain ⟨y175, hy175⟩ : ∃ y_ : List ByteArray, y_ = (x3_1 ++ [x4_1]) := ⟨_, rfl⟩
              replace H : (paternosterref24_Split.l0 k1 a0 y175 (⟨#[]⟩ : ByteArray) (wrap64 (x5_1 + 1))) = some r := by first | (rw [hy175]; with_reducible exact H) | (have H2_ := (Option.bind_some _ _).symm.trans H; rw [hy175]; with_reducible exact H2_) | (have H2_ := (Option.bind_some _ _).symm.trans H; with_reducible exact H2_) | with_reducible exact H | (rw [hy175]; exact H) | exact H
              have Ny175 := Aside0.mk hy175
              clear hy175
              have H' := Aside0.mk H
              clear H
              have p4 : 0 ≤ (x5_1 : Int) := of_decide_eq_true (by first | (with_reducible assumption) | assumption)
              have q4 : x5_1 < (a0.size : Int) := of_decide_eq_true (by first | (with_reducible assumption) | assumption)
              have hx4 := bt_at a0 x5_1
              replace p4 := eq_true p4
              replace q4 := eq_true q4
              go_wp2_with (first | ((with_reducible refine gate_builtin (b := .append) (xs := #[.tmp 16, .tmp 18]) rfl ?_); at_builtin; refine Kd.R_append Kd.string (w0 := w) w.heap.size rfl (.tmp 16) (.tmp 18) 54 9 (.string ⟨#[]⟩) 16 rfl Tryz.underlying54 info9 rfl (by decide) (by omega) u3 x3_1 x4_1 [.string x4_1] (fun _ => True) (fun _ => False) rfl rfl ?aP (fun _ hk => hk.elim) ?aF ?aO ?aB ?aS ?aL ?_; (case aP => exact rfl); (case aB => exact (by repeat (first | (with_reducible first | exact HB.out | apply below_alloc | apply pw_below_drewN | apply below_drew1) | exact HB.out))); (case aF => exact (fun _ _ => trivial)); (case aO => exact (by (with_reducible repeat (first | apply Kd.R_alloc | apply Kd.R_drewN | apply Kd.R_drew)); exact HO_3.out)); (case aS => exact (below_size (by repeat (first | (with_reducible first | exact HB.out | apply below_alloc | apply pw_below_drewN | apply below_drew1) | exact HB.out)))); (case aL => have := LMc6.out; omega); intro v176 w7 ho hb hg hat; rw [← Ny175.out] at ho; have n0_ := Aside0.mk (hb); have n1_ := Aside0.mk (ho); clear HB; clear HO_3; have HB := n0_; have HO177 := n1_; clear n0_ n1_; clear ho hb hg hat))
              go_roundg k1
              case measure => have := HK1.out; omega
              case rel => exact ⟨(y175), ((⟨#[]⟩ : ByteArray)), (wrap64 (x5_1 + 1)), (by first | rfl | (simp; done) | (simp [*]; done)), (by first | rfl | (simp; done) | (simp [*]; done)), H', ⟨by have := HK1.out; omega⟩, ⟨by (with_reducible repeat (first | apply Kd.R_alloc | apply Kd.R_drewN | apply Kd.R_drew)); exact HO177.out⟩, ⟨by repeat (first | (with_reducible first | exact HB.out | apply below_alloc | apply pw_below_drewN | apply below_drew1) | exact HB.out)⟩⟩
            · rw [if_neg c6] at H
              exact absurd H (by simp)
          · rw [if_neg c5] at H
            have c5b0 : ((bt a0 x5_1) == 32) = false := beq_eq_false_iff_ne.mpr c5
            have c5b1 : ((bt a0 x5_1) != 32) = true := bne_iff_ne.mpr c5
            have c8b0 := eq_true (of_decide_eq_true (by first | (with_reducible assumption) | assumption) : 0 ≤ x5_1)
            by_cases c9 : x5_1 ≤ (wrap64 (x5_1 + 1))
            · rw [if_pos c9] at H
              have c9b0 := eq_true c9
              have c9b1 : decide (x5_1 ≤ (wrap64 (x5_1 + 1))) = true := decide_eq_true c9
              by_cases c10 : (wrap64 (x5_1 + 1)) ≤ (a0.size : Int)
              · rw [if_pos c10] at H
                have c10b0 := eq_true c10
                have c10b1 : decide ((wrap64 (x5_1 + 1)) ≤ (a0.size : Int)) = true := decide_eq_true c10
                by_cases c11 : x4_1.size + (a0.extract (x5_1 : Int).toNat ((wrap64 (x5_1 + 1)) : Int).toNat).size ≤ 9223372036854775807
                · rw [if_pos c11] at H
                  have c11b0 := eq_true c11
                  have c11b1 : decide (x4_1.size + (a0.extract (x5_1 : Int).toNat ((wrap64 (x5_1 + 1)) : Int).toNat).size ≤ 9223372036854775807) = true := decide_eq_true c11
                  try have c11b2 : (9223372036854775807 < x4_1.size + (a0.extract (x5_1 : Int).toNat ((wrap64 (x5_1 + 1)) : Int).toNat).size) = False := eq_false (Nat.not_lt.2 c11)
                  have H' := Aside0.mk H
                  clear H
                  have p4 : 0 ≤ (x5_1 : Int) := of_decide_eq_true (by first | (with_reducible assumption) | assumption)
                  have q4 : x5_1 < (a0.size : Int) := of_decide_eq_true (by first | (with_reducible assumption) | assumption)
                  have hx4 := bt_at a0 x5_1
                  replace p4 := eq_true p4
                  replace q4 := eq_true q4
                  go_wp2
                  go_roundg k1
                  case measure => have := HK1.out; omega
                  case rel => exact ⟨(x3_1), (x4_1 ++ (a0.extract (x5_1 : Int).toNat ((wrap64 (x5_1 + 1)) : Int).toNat)), (wrap64 (x5_1 + 1)), (by first | rfl | (simp; done) | (simp [*]; done)), (by first | rfl | (simp; done) | (simp [*]; done)), H', ⟨by have := HK1.out; omega⟩, ⟨by (with_reducible repeat (first | apply Kd.R_alloc | apply Kd.R_drewN | apply Kd.R_drew)); exact HO_3.out⟩, ⟨by repeat (first | (with_reducible first | exact HB.out | apply below_alloc | apply pw_below_drewN | apply below_drew1) | exact HB.out)⟩⟩
                · rw [if_neg c11] at H
                  exact absurd H (by simp)
              · rw [if_neg c10] at H
                exact absurd H (by simp)
            · rw [if_neg c9] at H
              exact absurd H (by simp)
        · rw [if_neg c3] at H
          exact absurd H (by simp)
      · rw [if_neg c2] at H
        have c2b0 : decide (x5_1 < (a0.size : Int)) = false := decide_eq_false c2
        clear c2
        by_cases c12 : x3_1.length < 8796093022208
        · rw [if_pos c12] at H
          have LMc12 := Aside0.mk c12
          clear c12
          obtain ⟨y178, hy178⟩ : ∃ y_ : List ByteArray, y_ = (x3_1 ++ [x4_1]) := ⟨_, rfl⟩
          replace H : (some y178) = some r := by first | (rw [hy178]; with_reducible exact H) | (have H2_ := (Option.bind_some _ _).symm.trans H; rw [hy178]; with_reducible exact H2_) | (have H2_ := (Option.bind_some _ _).symm.trans H; with_reducible exact H2_) | with_reducible exact H | (rw [hy178]; exact H) | exact H
          have Ny178 := Aside0.mk hy178
          clear hy178
          obtain rfl := Option.some.inj H
          go_wp2_with (first | ((with_reducible refine gate_builtin (b := .append) (xs := #[.tmp 27, .tmp 29]) rfl ?_); at_builtin; refine Kd.R_append Kd.string (w0 := w) w.heap.size rfl (.tmp 27) (.tmp 29) 54 9 (.string ⟨#[]⟩) 16 rfl Tryz.underlying54 info9 rfl (by decide) (by omega) u3 x3_1 x4_1 [.string x4_1] (fun _ => True) (fun _ => False) rfl rfl ?aP (fun _ hk => hk.elim) ?aF ?aO ?aB ?aS ?aL ?_; (case aP => exact rfl); (case aB => exact (by repeat (first | (with_reducible first | exact HB.out | apply below_alloc | apply pw_below_drewN | apply below_drew1) | exact HB.out))); (case aF => exact (fun _ _ => trivial)); (case aO => exact (by (with_reducible repeat (first | apply Kd.R_alloc | apply Kd.R_drewN | apply Kd.R_drew)); exact HO_3.out)); (case aS => exact (below_size (by repeat (first | (with_reducible first | exact HB.out | apply below_alloc | apply pw_below_drewN | apply below_drew1) | exact HB.out)))); (case aL => have := LMc12.out; omega); intro v179 w13 ho hb hg hat; rw [← Ny178.out] at ho; have n0_ := Aside0.mk (hb); have n1_ := Aside0.mk (ho); clear HB; clear HO_3; have HB := n0_; have HO180 := n1_; clear n0_ n1_; clear ho hb hg hat))
          go_ret
          exact ⟨_, by first | rfl | (simp [errW_none, errW_some] <;> rfl) | (simp [*, errW_none, errW_some] <;> rfl), by (with_reducible repeat (first | apply Kd.R_alloc | apply Kd.R_drewN | apply Kd.R_drew)); exact HO180.out, by repeat (first | (with_reducible first | exact HB.out | apply below_alloc | apply pw_below_drewN | apply below_drew1) | exact HB.out)⟩
        · rw [if_neg c12] at H
          exact absurd H (by simp)
end Go.Proofs.YtglgipggefpoiaaGreatDoor.PAll
end
