/- Texts of mine, put together (no statement stands here). -/
import Derived.Test.YtbcijmpkmmcdeaaDoorProg
import Derived.Lib.BufferMore
import Derived.RangeFuncBox
import Derived.RangeFuncNested
import Derived.RangeFuncLeaves
import Derived.Shelf.Abstract
import Derived.OwnWalkIn
import Derived.TacticsInMore
import Derived.LoopNIn
import Derived.LoopIn
import Derived.Sort.QuietIn
import Derived.Lib.Hide
import Derived.Lib.SlBytesConst
import Derived.Deep.LoopGhost
import Derived.Deep.RegionWith
import Derived.Below
import Derived.Deep.Draws
import Derived.Deep.AppendLies
import Derived.Maps.AppendAt
import Derived.OwnWalk
import Derived.Laws.BytesArg
import Derived.Laws.MakeOwn
import Derived.Laws.OwnMore
import Derived.Deep.OwnRows
import Derived.Tactics
import Derived.Lib.ConvBytes
import Derived.Laws.Slices
import Derived.WalkKit
import Derived.KernelRfl
import Derived.RowKit3
import Derived.Deep.QuietTactic
import Derived.BigQuiet
import Derived.WideLaws
import Derived.Deep.DeepCutAuto
import Derived.Deep.CutBlock
import Derived.Deep.RegionHeld3
import Derived.Laws.Rows
import Derived.Lib.AppendStr
import Derived.ArgAppend
import Derived.Laws.IdiomCopy
import Derived.OrdersHeld
import Derived.Laws.BitsLemmas
import Derived.RowKit
import Derived.Test.YtbcijmpkmmcdeaaDoorCMTells3
import Derived.Test.YtbcijmpkmmcdeaaDoorCMTells4
import Derived.Test.YtbcijmpkmmcdeaaDoorCMTells8
import Derived.Test.YtbcijmpkmmcdeaaDoorCMTells5
import Derived.Deep.RegionHeld
import Derived.WalkMore
import Derived.OpenShut
section
namespace Go.Proofs.YtbcijmpkmmcdeaaDoor.PAll
open Go.RowKit Go.Proofs.YtbcijmpkmmcdeaaDoorW.PrintWords Go.Proofs.YtbcijmpkmmcdeaaDoorW.PrintLast Go.Proofs.YtbcijmpkmmcdeaaDoorW.PrintMore
attribute [local go_sem] max2_int min2_int max_two min_two max_three min_three max_four min_four
set_option linter.unusedVariables false
set_option linter.unusedSimpArgs false
def errW : Option Int → Value
  | none => .nilIface
  | some c => .iface 0 (.int .i64 c)
theorem errW_none : errW none = .nilIface := rfl
theorem errW_some (c : Int) : errW (some c) = .iface 0 (.int .i64 c) := rfl
theorem info2 : (Tryd.prog.info? 2).map (fun i => (i.zero, i.size, i.bytes)) = some (some (.int .i64 0), 1, 8) := by kernel_rfl
theorem info5 : (Tryd.prog.info? 5).map (fun i => (i.zero, i.size, i.bytes)) = some (some (.int .u8 0), 1, 1) := by kernel_rfl
theorem info9 : (Tryd.prog.info? 9).map (fun i => (i.zero, i.size, i.bytes)) = some (some (.string ⟨#[]⟩), 1, 16) := by kernel_rfl
theorem info53 : (Tryd.prog.info? 53).map (fun i => (i.zero, i.size, i.bytes)) = some (some (.int .u64 0), 1, 8) := by kernel_rfl
structure S91 where
  f0 : Int
  f1 : Int
def z91 : S91 := ⟨(0 : Int), (0 : Int)⟩
def k91 : Kd S91 := Kd.iso (Kd.pair (Kd.int .i64) (Kd.int .i64)) (fun x : S91 => (x.f0, x.f1))
theorem k91_open {w : World} {x : S91} {cs : List Value} (h : k91.K w x cs) : cs = [.int .i64 x.f0, .int .i64 x.f1] := by
  obtain ⟨_, _, rfl, rfl, rfl⟩ := h
  exact rfl
theorem k91_mk (w : World) (x : S91)  : k91.K w x [.int .i64 x.f0, .int .i64 x.f1] := ⟨[.int .i64 x.f0], [.int .i64 x.f1], rfl, rfl, rfl⟩
def rd_T91 (xs : List S91) (i : Int) : S91 := xs.getD i.toNat z91
theorem at_T91 {w : World} {A : Option Addr} {n : Nat} {xs : List S91} (h : Kd.C k91 w A n xs) (i : Int) (h0 : 0 ≤ i) (h1 : i < n) : ∃ ad , A = some ad ∧ w.cell? (ad.add (i.toNat * 2)) = some (.int .i64 (rd_T91 xs i).f0) ∧ w.cell? ⟨(ad.add (i.toNat * 2)).block, (ad.add (i.toNat * 2)).off + 1, none⟩ = some (.int .i64 (rd_T91 xs i).f1) := by
  obtain ⟨ad, c, e, _, hK, hc0⟩ := Kd.C_get h z91 i h0 h1
  have hc : ∀ j u, c[j]? = some u → w.cell? (ad.add (i.toNat * 2 + j)) = some u := hc0
  obtain rfl := k91_open hK
  exact ⟨ad, e, hc 0 _ rfl, by rw [← add_field _ _ 1 (by omega)]; exact hc 1 _ rfl⟩
structure S51 where
  f0 : Int
  f1 : Int
def z51 : S51 := ⟨(0 : Int), (0 : Int)⟩
def k51 : Kd S51 := Kd.iso (Kd.pair (Kd.int .i64) (Kd.int .i64)) (fun x : S51 => (x.f0, x.f1))
theorem k51_open {w : World} {x : S51} {cs : List Value} (h : k51.K w x cs) : cs = [.int .i64 x.f0, .int .i64 x.f1] := by
  obtain ⟨_, _, rfl, rfl, rfl⟩ := h
  exact rfl
theorem k51_openM {w : World} {base : Nat} {ok : Nat → Prop} {x : S51} {cs : List Value} (h : k51.M w base ok x cs) : cs = [.int .i64 x.f0, .int .i64 x.f1] := by
  obtain ⟨_, _, rfl, rfl, rfl⟩ := h
  exact rfl
theorem k51_mk (w : World) (x : S51)  : k51.K w x [.int .i64 x.f0, .int .i64 x.f1] := ⟨[.int .i64 x.f0], [.int .i64 x.f1], rfl, rfl, rfl⟩
def rd_T51 (xs : List S51) (i : Int) : S51 := xs.getD i.toNat z51
theorem at_T51 {w : World} {A : Option Addr} {n : Nat} {xs : List S51} (h : Kd.C k51 w A n xs) (i : Int) (h0 : 0 ≤ i) (h1 : i < n) : ∃ ad , A = some ad ∧ w.cell? (ad.add (i.toNat * 2)) = some (.int .i64 (rd_T51 xs i).f0) ∧ w.cell? ⟨(ad.add (i.toNat * 2)).block, (ad.add (i.toNat * 2)).off + 1, none⟩ = some (.int .i64 (rd_T51 xs i).f1) := by
  obtain ⟨ad, c, e, _, hK, hc0⟩ := Kd.C_get h z51 i h0 h1
  have hc : ∀ j u, c[j]? = some u → w.cell? (ad.add (i.toNat * 2 + j)) = some u := hc0
  obtain rfl := k51_open hK
  exact ⟨ad, e, hc 0 _ rfl, by rw [← add_field _ _ 1 (by omega)]; exact hc 1 _ rfl⟩
structure S28 where
  f0 : Int
  f1 : Int
def k28 : Kd S28 := Kd.iso (Kd.pair (Kd.int .i64) (Kd.int .i64)) (fun x : S28 => (x.f0, x.f1))
theorem k28_open {w : World} {x : S28} {cs : List Value} (h : k28.K w x cs) : cs = [.int .i64 x.f0, .int .i64 x.f1] := by
  obtain ⟨_, _, rfl, rfl, rfl⟩ := h
  exact rfl
theorem k28_mk (w : World) (x : S28)  : k28.K w x [.int .i64 x.f0, .int .i64 x.f1] := ⟨[.int .i64 x.f0], [.int .i64 x.f1], rfl, rfl, rfl⟩
structure S29 where
  f0 : Int
  f1 : Int
def k29 : Kd S29 := Kd.iso (Kd.pair (Kd.int .i64) (Kd.int .i64)) (fun x : S29 => (x.f0, x.f1))
theorem k29_open {w : World} {x : S29} {cs : List Value} (h : k29.K w x cs) : cs = [.int .i64 x.f0, .int .i64 x.f1] := by
  obtain ⟨_, _, rfl, rfl, rfl⟩ := h
  exact rfl
theorem k29_mk (w : World) (x : S29)  : k29.K w x [.int .i64 x.f0, .int .i64 x.f1] := ⟨[.int .i64 x.f0], [.int .i64 x.f1], rfl, rfl, rfl⟩
end Go.Proofs.YtbcijmpkmmcdeaaDoor.PAll
end
section
namespace Go.Proofs.YtbcijmpkmmcdeaaDoor.PAll
open Go.RowKit Go.Proofs.YtbcijmpkmmcdeaaDoorW.PrintWords Go.Proofs.YtbcijmpkmmcdeaaDoorW.PrintLast Go.Proofs.YtbcijmpkmmcdeaaDoorW.PrintMore
attribute [local go_sem] max2_int min2_int max_two min_two max_three min_three max_four min_four
set_option linter.unusedVariables false
set_option linter.unusedSimpArgs false
def octet_may.f (a0 : Int) : Option (Bool) := if a0 ≥ 1 then (some (decide (a0 ≤ 8))) else (some false)
set_option maxHeartbeats 8000000 in
set_option maxRecDepth 100000 in
theorem octet_may.calls (a0 : Int) (r : Bool) (w : World) (h : octet_may.f a0 = some r) :
    Calls Tryd.prog 65 #[.int .i64 a0] w fun e w' => e = .returned (.bool r) ∧ Drawn0 w w' := by
  have H : (if a0 ≥ 1 then (some (decide (a0 ≤ 8))) else (some false)) = some r := h
  clear h
  by_cases c2 : a0 ≥ 1
  · rw [if_pos c2] at H
    have c2b0 : decide (1 ≤ a0) = true := decide_eq_true c2
    clear c2
    obtain rfl := Option.some.inj H
    go_enter Tryd.func65, Tryd.ntmps65
    go_wp2
    go_ret
    exact ⟨by first | rfl | (simp; done) | (simp [*]; done), by repeat (first | exact Drawn0.refl _ | apply Drawn0.step)⟩
  · rw [if_neg c2] at H
    have c2b0 : decide (1 ≤ a0) = false := decide_eq_false c2
    clear c2
    obtain rfl := Option.some.inj H
    go_enter Tryd.func65, Tryd.ntmps65
    go_wp2
    go_ret
    exact ⟨by first | rfl | (simp; done) | (simp [*]; done), by repeat (first | exact Drawn0.refl _ | apply Drawn0.step)⟩
end Go.Proofs.YtbcijmpkmmcdeaaDoor.PAll
end
section
namespace Go.Proofs.YtbcijmpkmmcdeaaDoor.PAll
open Go.RowKit Go.Proofs.YtbcijmpkmmcdeaaDoorW.PrintWords Go.Proofs.YtbcijmpkmmcdeaaDoorW.PrintLast Go.Proofs.YtbcijmpkmmcdeaaDoorW.PrintMore
attribute [local go_sem] max2_int min2_int max_two min_two max_three min_three max_four min_four
set_option linter.unusedVariables false
set_option linter.unusedSimpArgs false
section
open Go.Shelf
def ChK (n₀ Bs Bn : Nat) (W W' : World) : Prop := Below n₀ W W' ∧ W'.heap[Bs]? = W.heap[Bs]? ∧ W'.heap[Bn]? = W.heap[Bn]?
theorem ChK.t {n₀ Bs Bn : Nat} {A B C : World} (h : ChK n₀ Bs Bn A B) (k : ChK n₀ Bs Bn B C) : ChK n₀ Bs Bn A C := ⟨h.1.trans k.1, k.2.1.trans h.2.1, k.2.2.trans h.2.2⟩
theorem ChK.b {n₀ Bs Bn : Nat} {w : World} (hn : n₀ ≤ w.heap.size) (hs : Bs < w.heap.size) (hm : Bn < w.heap.size) (W : World) (l : Nat) (o o' : Obj) (hl : w.heap.size ≤ l) (h : W.heap[l]? = some o) (hc : o.isCells = false) (hw : o.isWalk = false) : ChK n₀ Bs Bn W (W.putObj l o') :=
  ⟨belowK_b hn W l o o' hl h hc hw, World.putObj_heap_other (by omega), World.putObj_heap_other (by omega)⟩
section
attribute [local go_sem] Oper.semAt_some
set_option maxRecDepth 100000 in
set_option maxHeartbeats 2000000 in
theorem chunk1_in (n : Nat) (hn : 1 ≤ n) (l Bs Bn n₀ b off sz m cap : Nat) (hsz : 0 < sz) (hsz8 : sz ≤ 8) (hreach : m * sz ≤ 1099511627776) (hcap : m * sz ≤ cap) (J Jx : Nat → World → Prop)
    (hY : ∀ k W, k < m → J k W → YieldAt Fence.wide (n - 1) Tryd.prog l #[.slice (some ⟨b, off + k * sz, none⟩) sz sz] W fun e W' =>
      (e = .returned (.bool true) ∧ J (k + 1) W' ∧ ChK n₀ Bs Bn W W') ∨ (e = .returned (.bool false) ∧ Jx (k + 1) W'))
    (hJd : ∀ k W q, J k W → J k (World.drewN W q)) (W : World) (A : Option Addr) (hA : 0 < m → A = some ⟨b, off, none⟩) (hBs : Boxed W Bs 22 (.slice A (m * sz) cap)) (hBn : Boxed W Bn 3 (.int .i64 sz)) (h0 : J 0 W) :
    CallsIn Fence.wide n Tryd.prog 76 #[.func (.yield l) #[] #[], .pointer (some ⟨Bs, 0, none⟩), .pointer (some ⟨Bn, 0, none⟩)] W fun e W' => (∃ v, e = .returned v) ∧
      (J m W' ∨ (∃ k, k ≤ m ∧ Jx k W')) := by
  refine callsIn_of_wp Tryd.func76 rfl trivial ?_ rfl
  simp only [Tryd.ntmps76, List.size_toArray, List.length_cons, List.length_nil, Nat.reduceAdd, Nat.reduceSub, Array.replicate_succ, Array.replicate_zero, List.push_toArray, List.append_toArray, List.nil_append, List.cons_append]
  gi_wp2
  gi_loopw [4] (fun i wr => ∃ k : Nat, k ≤ m ∧ i = .int .i64 (k * sz : Nat) ∧ J k wr ∧ ChK n₀ Bs Bn W wr)
    (fun i _ => m * sz - (intOf i).toNat)
  case atStart => exact ⟨0, Nat.zero_le _, by simp, h0, Below.refl _ _, rfl, rfl⟩
  case round =>
    obtain ⟨k, hk, rfl, hJs, hnx⟩ := hrel
    have hs1 : Boxed wr Bs 22 (.slice A (m * sz) cap) := hnx.2.1.trans hBs
    have hn1 : Boxed wr Bn 3 (.int .i64 sz) := hnx.2.2.trans hBn
    have hcs := hs1.cell
    have hcn := hn1.cell
    by_cases hlt : k < m
    · obtain rfl := hA (by omega)
      have hks : k * sz + sz ≤ m * sz := by rw [← Nat.succ_mul]; exact Nat.mul_le_mul_right _ hlt
      generalize hM : m * sz = M at *
      generalize hK : k * sz = K at *
      have HM := Lib.hid hM
      have HK := Lib.hid hK
      clear hM hK
      have hmin : min sz (M - K) = sz := by omega
      have hminI : min (sz : Int) ((M : Int) - (K : Int)) = sz := by omega
      gi_wp2
      gi_quiet (fail)
      obtain ⟨fn, tmps, assign, body, hy, hR⟩ := hY k (wr.drewN nq) hlt (hJd _ _ _ hJs)
      rw [HK.out] at hy
      have hnx2 : ChK n₀ Bs Bn wr (wr.drewN nq) := ⟨pw_below_drewN (Below.refl _ _) _, rfl, rfl⟩
      have e1 : K + sz - K = sz := by omega
      have hnx0 := Aside0.mk hnx
      clear hY hnx
      gi_wp2
      refine hR.mono ?_
      rintro e W3 (⟨rfl, hJ3, hk3⟩ | ⟨rfl, hJx3⟩)
      · have hn3 : Boxed W3 Bn 3 (.int .i64 sz) := hk3.2.2.trans ((hnx2.2.2).trans hn1)
        have hcn3 := hn3.cell
        clear e1
        gi_wp2
        go_roundw
        case rel => exact ⟨k + 1, by omega, by rw [Nat.succ_mul, HK.out]; simp, hJ3, ChK.t hnx0.out (ChK.t hnx2 hk3)⟩
        case measure => simp [intOf]; omega
      · gi_wp2
        refine bodyPost_ret (results_none rfl _ _ _) rfl ?_
        exact ⟨⟨_, rfl⟩, .inr ⟨k + 1, by omega, hJx3⟩⟩
    · obtain rfl : k = m := by omega
      gi_wp2
      go_end0
      exact ⟨⟨_, rfl⟩, .inl hJs⟩
theorem chunk_in (n : Nat) (A : Option Addr) (len cap sz : Nat) (h1 : 1 ≤ sz) (h8 : sz ≤ 8) (w : World) :
    CallsIn Fence.wide n Tryd.prog 66 #[.slice A len cap, .int .i64 sz] w fun e w' => e = .returned (.func (.func 76) #[] #[.pointer (some ⟨w.heap.size, 0, none⟩), .pointer (some ⟨w.heap.size + 1, 0, none⟩)]) ∧
      w' = (w.alloc (.cells #[.slice A len cap] 22)).alloc (.cells #[.int .i64 sz] 3) := by
  have hd : decide ((sz : Int) < 1) = false := decide_eq_false (by omega)
  have hd2 : decide (sz < 1) = false := decide_eq_false (by omega)
  refine callsIn_of_wp Tryd.func66 rfl trivial ?_ rfl
  simp only [Tryd.ntmps66, List.size_toArray, List.length_cons, List.length_nil, Nat.reduceAdd, Nat.reduceSub, Array.replicate_succ, Array.replicate_zero, List.push_toArray, List.append_toArray, List.nil_append, List.cons_append]
  gi_wp2
  go_ret
  exact ⟨rfl, rfl⟩
theorem grownBy_drewN (W : World) (q : Nat) : W.grownBy (W.drewN q) none := ⟨rfl, rfl, rfl, Nat.le_refl _, fun _ _ _ => rfl⟩
theorem chunk_stops (n : Nat) (hn : 1 ≤ n) (Bs Bn n₀ b off sz m cap : Nat) (hsz : 0 < sz) (hsz8 : sz ≤ 8) (hreach : m * sz ≤ 1099511627776) (hcap : m * sz ≤ cap) (A : Option Addr) (hA : 0 < m → A = some ⟨b, off, none⟩)
    (w : World) (hBs : Boxed w Bs 22 (.slice A (m * sz) cap)) (hBn : Boxed w Bn 3 (.int .i64 sz)) :
    SeqStopsK Fence.wide n Tryd.prog 76 #[.pointer (some ⟨Bs, 0, none⟩), .pointer (some ⟨Bn, 0, none⟩)] (fun x : Fin m => #[Value.slice (some ⟨b, off + x.val * sz, none⟩) sz sz]) (ChK n₀ Bs Bn) (fun ys => ys = List.finRange m) (fun _ => True) m w := fun l J Jx W hW hJ _ hY h0 => by
  have tk : ∀ k (hk : k < m), (List.finRange m).take (k + 1) = (List.finRange m).take k ++ [⟨k, hk⟩] := fun k hk => by
    rw [List.take_succ_eq_append_getElem (by simpa using hk)]; simp
  refine (chunk1_in n hn l Bs Bn n₀ b off sz m cap hsz hsz8 hreach hcap (fun k => J ((List.finRange m).take k)) (fun k => Jx ((List.finRange m).take k)) (fun k W1 hk hj => ?_) (fun pre W q hj => hJ _ W _ none hj (grownBy_drewN W q) (fun r e => by cases e)) W A hA ((hW.block Bs hBs.lt).trans hBs) ((hW.block Bn hBn.lt).trans hBn) h0).mono ?_
  · simp only [tk k hk]
    exact hY _ ⟨k, hk⟩ W1 hj (by rw [List.length_take, List.length_finRange]; omega)
  · rintro e W' ⟨he, hj | ⟨k, _, hj⟩⟩
    · exact ⟨he, .inl ⟨_, by rw [List.take_of_length_le (by simp)], hj⟩⟩
    · exact ⟨he, .inr ⟨_, trivial, hj⟩⟩
theorem get_infoE : (Tryd.prog.info? 53).map (fun i => (i.zero, i.size, i.bytes)) = some (some (.int .u64 0), 1, 8) := by kernel_rfl
def leNum : List Int → Int
  | [] => 0
  | b :: r => b + 256 * leNum r
def gets (sz m : Nat) (l : List Int) : List Int := (List.range m).map fun j => leNum ((l.drop (j * sz)).take sz)
theorem leNum_lt (l : List Int) (h : ∀ x ∈ l, 0 ≤ x ∧ x ≤ 255) : 0 ≤ leNum l ∧ leNum l < 256 ^ l.length := by
  induction l with
  | nil => simp [leNum]
  | cons a r ih =>
    have h1 := h a (List.mem_cons_self ..)
    obtain ⟨h2, h3⟩ := ih (fun x hx => h x (List.mem_cons_of_mem _ hx))
    simp only [leNum, List.length_cons, Int.pow_succ]
    omega
theorem leNum_snoc (l : List Int) (z : Int) : leNum (l ++ [z]) = leNum l + z * 256 ^ l.length := by
  induction l with
  | nil => simp [leNum]
  | cons a r ih => simp only [List.cons_append, leNum, ih, List.length_cons, Int.pow_succ]; rw [Int.mul_add, ← Int.mul_assoc, Int.mul_comm 256 z, Int.mul_assoc z, Int.mul_comm 256 (256 ^ r.length), Int.add_assoc]
theorem pow_256 (k : Nat) : (256 : Int) ^ k = 2 ^ (8 * k) := by rw [Int.pow_mul]; rfl
theorem wraps_u64 (n : Int) (h0 : 0 ≤ n) (h1 : n < 2 ^ 64) : IntKind.u64.wrap n = n := by
  simp only [IntKind.wrap, IntKind.signed, IntKind.bits]
  simp
  omega
theorem get_step (l : List Int) (X k : Nat) (z : Int) (hk : k < 8) (hz : l[X + k]? = some z) (hb : ∀ x ∈ l, 0 ≤ x ∧ x ≤ 255) :
    bits BinOp.or IntKind.u64 (leNum ((l.drop X).take k)) (IntKind.u64.wrap (z * 2 ^ (8 * k))) = leNum ((l.drop X).take (k + 1)) := by
  have hz2 := hb z (List.mem_of_getElem? hz)
  have hd : (l.drop X)[k]? = some z := by rw [List.getElem?_drop]; exact hz
  have htk : (l.drop X).take (k + 1) = (l.drop X).take k ++ [z] := by rw [List.take_add_one, hd]; rfl
  have hlt : k < (l.drop X).length := (List.getElem?_eq_some_iff.1 hd).1
  have hlen : ((l.drop X).take k).length = k := by rw [List.length_take]; omega
  obtain ⟨h2, h3⟩ := leNum_lt ((l.drop X).take k) (fun x hx => hb x (List.mem_of_mem_drop (List.mem_of_mem_take hx)))
  rw [hlen, pow_256] at h3
  rw [htk, leNum_snoc, hlen, pow_256]
  generalize leNum ((l.drop X).take k) = N at *
  have hp : (2 : Int) ^ (8 * k) * 256 ≤ 2 ^ 64 := by
    have e : (2 : Int) ^ (8 * k) * 256 = 2 ^ (8 * k + 8) := by rw [Int.pow_add]; rfl
    rw [e]
    exact_mod_cast Nat.pow_le_pow_right (by decide : 0 < 2) (by omega : 8 * k + 8 ≤ 64)
  have hp0 : (0 : Int) < 2 ^ (8 * k) := Int.pow_pos (by decide)
  have hw : IntKind.u64.wrap (z * 2 ^ (8 * k)) = z * 2 ^ (8 * k) := wraps_u64 _ (Int.mul_nonneg hz2.1 (Int.le_of_lt hp0)) (by
    have : z * 2 ^ (8 * k) ≤ 255 * 2 ^ (8 * k) := Int.mul_le_mul_of_nonneg_right hz2.2 (Int.le_of_lt hp0)
    omega)
  rw [hw]
  obtain ⟨a, rfl⟩ := Int.eq_ofNat_of_zero_le h2
  obtain ⟨c, rfl⟩ := Int.eq_ofNat_of_zero_le hz2.1
  have ha : a < 2 ^ (8 * k) := by exact_mod_cast h3
  have hc : c * 2 ^ (8 * k) < 2 ^ 64 := by
    have h5 : c * 2 ^ (8 * k) ≤ 255 * 2 ^ (8 * k) := Nat.mul_le_mul_right _ (by omega)
    have h6 : 2 ^ (8 * k) * 256 ≤ 2 ^ 64 := by
      rw [show (256 : Nat) = 2 ^ 8 by rfl, ← Nat.pow_add]; exact Nat.pow_le_pow_right (by decide) (by omega)
    omega
  have ha2 : a < 2 ^ 64 := Nat.lt_of_lt_of_le ha (Nat.pow_le_pow_right (by decide) (by omega))
  rw [show ((c : Int) * 2 ^ (8 * k)) = ((c * 2 ^ (8 * k) : Nat) : Int) by simp, (bits_nat .u64 64 (by decide) wraps_u64 a _ ha2 hc).2, Nat.or_comm, Nat.mul_comm c, ← Nat.two_pow_add_eq_or_of_lt ha c]
  simp [Int.add_comm, Int.mul_comm]
set_option maxRecDepth 100000 in
set_option maxHeartbeats 4000000 in
theorem get_in (n : Nat) (hn : 3 ≤ n) (sz m : Nat) (h1 : 1 ≤ sz) (h8 : sz ≤ 8) (hreach : m * sz ≤ 1099511627776) (A : Option Addr) (cap : Nat) (l : List Int) (hl : l.length = m * sz) (hcap : m * sz ≤ cap) (hb : ∀ x ∈ l, 0 ≤ x ∧ x ≤ 255) (w : World) (hr : Kd.C (Kd.int .u8) w A (m * sz) l) :
    CallsIn Fence.wide n Tryd.prog 45 #[.int .i64 sz, .slice A (m * sz) cap] w fun e W' => ∃ v, e = .returned (.tuple #[v, .int .i64 0]) ∧ W'.ownsRow w.heap.size 53 1 v (gets sz m l).length (nums .u64 (gets sz m l)) ∧ Below w.heap.size w W' := by
  obtain ⟨i0, hi, hz0, hz1, hz2⟩ := info_parts get_infoE
  have hmay : ∀ W : World, CallsIn (Fence.wide) (n - 1) Tryd.prog 65 #[.int .i64 sz] W fun e W' => e = .returned (.bool true) ∧ ∃ q, W' = W.drewN q := fun W =>
    callsIn_wide.2 ((octet_may.calls sz true W (by unfold octet_may.f; rw [if_pos (by omega), decide_eq_true (by omega)])).mono fun e W' h => ⟨h.1, h.2.out⟩)
  generalize hM : m * sz = M at *
  have HM := Lib.hid hM
  have hrem : (M : Int) % (sz : Int) = 0 := by
    rw [← hM]; simp
  clear hM
  refine callsIn_of_wp_marks Tryd.func45 rfl trivial ?_ rfl
  simp only [Tryd.ntmps45, List.size_toArray, List.length_cons, List.length_nil, Nat.reduceAdd, Nat.reduceSub, Array.replicate_succ, Array.replicate_zero, List.push_toArray, List.append_toArray, List.nil_append, List.cons_append]
  gi_wp2_with (first | (refine ⟨trivial, (fun h_ => by cases h_), ?_⟩; gi_at_call 65; refine (hmay _).mono ?_; rintro e w' ⟨rfl, q, rfl⟩) | (refine ⟨trivial, (fun h_ => by cases h_), ?_⟩; gi_at_call 66; refine (chunk_in (n - 1) A M cap sz h1 h8 _).mono ?_; rintro e w' ⟨rfl, rfl⟩))
  have bO := Boxed.new (w.drewN q) 100 (.slice none 0 0)
  have bS := Boxed.new ((w.drewN q).alloc (.cells #[.slice none 0 0] 100)) 22 (.slice A M cap)
  have bN := Boxed.new (((w.drewN q).alloc (.cells #[.slice none 0 0] 100)).alloc (.cells #[.slice A M cap] 22)) 3 (.int .i64 sz)
  simp only [World.size_alloc] at bO bS bN
  replace bO : Boxed _ w.heap.size 100 (.slice none 0 0) := bO
  replace bS : Boxed _ (w.heap.size + 1) 22 (.slice A M cap) := bS
  replace bN : Boxed _ (w.heap.size + 1 + 1) 3 (.int .i64 sz) := bN
  have hB0 : Below w.heap.size w ((((w.drewN q).alloc (.cells #[.slice none 0 0] 100)).alloc (.cells #[.slice A M cap] 22)).alloc (.cells #[.int .i64 sz] 3)) :=
    below_alloc (below_alloc (below_alloc (pw_below_drewN (Below.refl _ _) q) _) _) _
  have hsize : ((((w.drewN q).alloc (.cells #[.slice none 0 0] 100)).alloc (.cells #[.slice A M cap] 22)).alloc (.cells #[.int .i64 sz] 3)).heap.size = w.heap.size + 3 := by simp
  have bO' := (bO.alloc (.cells #[.slice A M cap] 22)).alloc (.cells #[.int .i64 sz] 3)
  have bS' := bS.alloc (.cells #[.int .i64 sz] 3)
  generalize hW0 : (((w.drewN q).alloc (.cells #[.slice none 0 0] 100)).alloc (.cells #[.slice A M cap] 22)).alloc (.cells #[.int .i64 sz] 3) = W0 at *
  clear hW0
  obtain ⟨b, off, hA⟩ : ∃ b off, 0 < m → A = some ⟨b, off, none⟩ := by
    rcases Nat.eq_zero_or_pos m with h0 | h0
    · exact ⟨0, 0, fun h => by omega⟩
    · have hMp : 0 < M := by rw [← HM.out]; exact Nat.mul_pos h0 h1
      obtain ⟨ad, hA, hc⟩ := hr.2.2 hMp
      have hne : 0 < l.length := by omega
      obtain ⟨cs, hcl, hK, hcell⟩ := hc 0 _ (List.getElem?_eq_getElem hne)
      have hcs : cs = [.int .u8 l[0]] := hK
      subst hcs
      have := hcell 0 _ rfl
      obtain ⟨bb, oo, ss⟩ := ad
      cases ss with
      | none => exact ⟨bb, oo, fun _ => hA⟩
      | some z => simp [World.cell?, Addr.add] at this; split at this <;> simp_all
  have hcells : ∀ j, j < M → ∃ x, l[j]? = some x ∧ w.cell? ⟨b, off + j, none⟩ = some (.int .u8 x) := fun j hj => by
    have hm0 : 0 < m := by
      rcases Nat.eq_zero_or_pos m with h0 | h0
      · rw [h0, Nat.zero_mul] at HM; have := HM.out; omega
      · exact h0
    obtain ⟨ad, hA', hc⟩ := hr.2.2 (by omega)
    rw [hA hm0] at hA'
    cases hA'
    have hjl : j < l.length := by omega
    obtain ⟨cs, hcl, hK, hcell⟩ := hc j _ (List.getElem?_eq_getElem hjl)
    have hcs : cs = [.int .u8 l[j]] := hK
    subst hcs
    refine ⟨l[j], List.getElem?_eq_getElem hjl, ?_⟩
    have h3 := hcell 0 _ rfl
    rwa [show j * (Kd.int .u8).sz + 0 = j from by simp [Kd.int, Kd.scalar], WideShapes.add_plain] at h3
  refine wpIn_rangeFunc_ownG rfl (by omega) (gf := 76) (lb := #[.pointer (some ⟨w.heap.size + 1, 0, none⟩), .pointer (some ⟨w.heap.size + 1 + 1, 0, none⟩)]) rfl trivial (enters_of Tryd.func76 (by kernel_rfl) rfl)
    (chunk_stops (n - 1) (by omega) (w.heap.size + 1) (w.heap.size + 1 + 1) w.heap.size b off sz m cap h1 h8 (by rw [HM.out]; exact hreach) (by rw [HM.out]; exact hcap) A hA W0 (by rw [HM.out]; exact bS') bN) ChK.t (ChK.b (by omega) (by omega) (by omega)) (Below.refl _ _) (fun _ => rfl)
    (fun (pre : List (Fin m)) W => (∃ v, Boxed W w.heap.size 100 v ∧ W.ownsRow w.heap.size 53 1 v pre.length (nums .u64 (pre.map fun j => leNum ((l.drop (j.val * sz)).take sz))) ∧ True) ∧ (Below w.heap.size w W ∧ (Boxed W (w.heap.size + 1) 22 (.slice A M cap) ∧ Boxed W (w.heap.size + 1 + 1) 3 (.int .i64 sz))))
    (fun _ _ _ => False)
    (OwnFrom.and (Own.from (holdsRow_own w.heap.size w.heap.size 100 53 1 (fun pre : List (Fin m) => pre.length) (fun pre : List (Fin m) => nums .u64 (pre.map fun j => leNum ((l.drop (j.val * sz)).take sz))) (fun pre v => True)) _) (OwnFrom.and (ownFrom_below (Nat.le_refl _) (by omega)) (OwnFrom.and (Own.from (boxed_own _ _ (fun _ => _)) _) (Own.from (boxed_own _ _ (fun _ => _)) _))))
    (fun _ _ _ _ _ hs _ _ => hs)
    ⟨⟨_, bO', World.ownsRow_nil _ _ _ _, trivial⟩, hB0, bS', bN⟩
    (fun x => { tmps := #[.int .i64 sz, .slice A M cap, undef, undef, .slice none 0 0, .int .i64 0, .pointer (some ⟨w.heap.size, 0, none⟩), .slice (some ⟨b, off + x.val * sz, none⟩) sz sz, undef, undef, undef, .bool false, .int .i64 sz, .bool true, .bool false, .bool false, .slice A M cap, .int .i64 M, .int .i64 sz, .int .i64 0, .bool false, .slice A M cap, .int .i64 sz, .func (.func 76) #[] #[.pointer (some ⟨w.heap.size + 1, 0, none⟩), .pointer (some ⟨w.heap.size + 1 + 1, 0, none⟩)], .slice (some ⟨b, off + x.val * sz, none⟩) sz sz, undef, undef, undef, undef, undef, undef, undef, undef, undef, undef, undef, undef, undef, undef, undef, undef, undef, undef, undef, undef], defers := [] }) ?assign ?body ?done ?stop
  case assign =>
    intro l x W K hK
    gi_wp2
    exact hK
  case body =>
    rintro l0 pre x W ⟨⟨v, hv, hrow, -⟩, hB, bS2, bN2⟩ hlt
    have hc := hv.cell
    have hxm : x.val * sz + sz ≤ M := by rw [← HM.out, ← Nat.succ_mul]; exact Nat.mul_le_mul_right _ x.isLt
    have hcx : ∀ j, j < sz → ∃ z, l[x.val * sz + j]? = some z ∧ W.cell? ⟨b, off + x.val * sz + j, none⟩ = some (.int .u8 z) := fun j hj => by
      obtain ⟨z, h3, h4⟩ := hcells (x.val * sz + j) (by omega)
      exact ⟨z, h3, by rw [Nat.add_assoc]; exact (hB.cell (World.block_lt_of_cell? w _ h4)).trans h4⟩
    generalize hX : x.val * sz = X at *
    have HX := Lib.hid hX
    clear hX
    have hbx : ∀ j z, l[X + j]? = some z → 0 ≤ z ∧ z ≤ 255 := fun j z hz => hb z (List.mem_of_getElem? hz)
    gi_wp2
    gi_loopw [8, 27] (fun xv i wr => ∃ k : Nat, k ≤ sz ∧ i = .int .i64 k ∧ xv = .int .u64 (leNum ((l.drop X).take k)) ∧ wr = W) (fun _ i _ => sz - (intOf i).toNat)
    case atStart => exact ⟨0, Nat.zero_le _, by simp, by simp [leNum], rfl⟩
    case round =>
      obtain ⟨k, hk, rfl, rfl, rfl⟩ := hrel
      by_cases hks : k < sz
      · obtain ⟨z, hz, hcz⟩ := hcx k hks
        have hz2 := hbx k z hz
        clear hcx hbx
        have hgs := get_step l X k z (by omega) hz hb
        gi_wp2
        go_roundw
        case rel => exact ⟨k + 1, by omega, by go_num, rfl, trivial⟩
        case measure => simp [intOf]; omega
      · obtain rfl : k = sz := by omega
        clear hcx hbx
        have hmM : m ≤ M := by rw [← HM.out]; exact Nat.le_mul_of_pos_right _ h1
        gi_wp2_with (gi_at_builtin; refine wpListIn_append_own _ rfl _ _ 100 rfl w.heap.size 53 i0 (.int .u64 0) 1 8 Tryd.underlying100 hi hz0 hz1 hz2 rfl (by decide) _ _ _ rfl (hrow.alloc _) ⟨wr.heap.size, 0, none⟩ 1 1 [.int .u64 (leNum (List.take k (List.drop X l)))] rfl rfl (cell_one_new _ _ _) (by simp [Value.oneCell']) (by simp only [maxLen]; omega) (by omega) (by have := hB.size; simp; omega) ?_; intro v' w1 hown' hgrow _; obtain ⟨g', cap', rfl⟩ := ownsRow_succ hown'; obtain ⟨hv1, hv2, hr2, hk2, hb2⟩ := hv.appended (by decide) hrow hB.size (Nat.le_refl _) hown' hgrow; have hc1 := hv1.cell; have hf1 := hv1.frozen)
        have hgX : leNum (List.take k (List.drop X l)) = leNum ((l.drop (x.val * k)).take k) := by rw [HX.out]
        have e1 : Boxed w1 (w.heap.size + 1) 22 (.slice A M cap) := (bS2.alloc _).kept hgrow (bS2.not_row (by decide) hrow)
        have e2 : Boxed w1 (w.heap.size + 1 + 1) 3 (.int .i64 k) := (bN2.alloc _).kept hgrow (bN2.not_row (by decide) hrow)
        have e3 := e1.other (B' := w.heap.size) (by omega) (.slice (some ⟨g', 0, none⟩) (pre.length + 1) cap')
        have e4 := e2.other (B' := w.heap.size) (by omega) (.slice (some ⟨g', 0, none⟩) (pre.length + 1) cap')
        refine ⟨hk2.from _, ⟨hb2, e3.trans bS2.symm, e4.trans bN2.symm⟩, ⟨⟨_, hv2, ?_, trivial⟩, hB.trans hb2, e3, e4⟩⟩
        rw [List.map_append, nums_append, List.length_append]
        simp only [List.map_cons, List.map_nil, ← hgX]
        exact hr2
  case done =>
    rintro D ys W hD rfl ⟨⟨v, hv, hrow, -⟩, hB, -, -⟩ hK
    have hc := hv.cell
    gi_wp2
    refine ⟨by simp, .inl ⟨_, _, rfl, run_takeDeferred hK, ?_⟩⟩
    have hgl : (gets sz m l).length = (List.finRange m).length := by simp [gets]
    have hge : gets sz m l = (List.finRange m).map fun j => leNum ((l.drop (j.val * sz)).take sz) := by
      unfold gets; apply List.ext_getElem <;> simp
    exact ⟨_, results_tmp2 rfl _ _ _, v, rfl, by rw [hgl, hge]; exact ownsRow_putObj hrow _ hK rfl, hB.trans (belowK_b (w := w) (Nat.le_refl _) W D _ _ (by have := hB0.size; omega) hK rfl rfl)⟩
  case stop =>
    rintro D c pre W _ _ h _
    exact h.elim
def octet_Get.f (a0 : Int) (l1 : List Int) : Option (List Int × Int) :=
  if a0 < 1 ∨ 8 < a0 then some ([], 1)
  else if (l1.length : Int) % a0 ≠ 0 then some ([], 10)
  else if l1.length ≤ 1099511627776 ∧ ∀ x ∈ l1, 0 ≤ x ∧ x ≤ 255 then some (gets a0.toNat (l1.length / a0.toNat) l1, 0) else none
end
set_option maxRecDepth 100000 in
set_option maxHeartbeats 4000000 in
theorem octet_Get.calls (a0 : Int) (A1 : Option Addr) (c1 : Nat) (l1 : List Int) (r1 : List Int) (r2 : Int) (w : World) (hr1 : Kd.C (Kd.int .u8) w A1 l1.length l1) (hc1 : l1.length ≤ c1) (h : octet_Get.f a0 l1 = some (r1, r2)) :
    Calls Tryd.prog 45 #[.int .i64 a0, .slice A1 l1.length c1] w fun e w' => ∃ v0_ : Value, e = .returned (.tuple #[v0_, .int .i64 r2]) ∧ Kd.R (Kd.int .u64) 53 w' w.heap.size (fun _ => True) v0_ r1 ∧ Below w.heap.size w w' := by
  unfold octet_Get.f at h
  have hmay : ∀ (b : Bool) (W : World), octet_may.f a0 = some b → Calls Tryd.prog 65 #[.int .i64 a0] W fun e W' => e = .returned (.bool b) ∧ ∃ q, W' = W.drewN q := fun b W hb =>
    (octet_may.calls a0 b W hb).mono fun e W' h => ⟨h.1, h.2.out⟩
  have hl := hr1.2.1
  by_cases h1 : a0 < 1 ∨ 8 < a0
  · rw [if_pos h1] at h
    simp only [Option.some.injEq, Prod.mk.injEq] at h
    obtain ⟨rfl, rfl⟩ := h
    have hm := fun W => hmay false W (by unfold octet_may.f; rcases h1 with h1 | h1; · rw [if_neg (by omega)]
                                         · rw [if_pos (by omega), decide_eq_false (by omega)])
    clear h1 hmay
    go_enter Tryd.func45, Tryd.ntmps45
    go_wp2_with (first | (go_at_call 65; refine (hm _).mono ?_; rintro e w' ⟨rfl, q, rfl⟩))
    go_ret2
    exact ⟨_, rfl, Kd.R_nil _ _ _ _ _, pw_below_drewN (Below.refl _ _) _⟩
  · rw [if_neg h1] at h
    have hm := fun W => hmay true W (by unfold octet_may.f; rw [if_pos (by omega), decide_eq_true (by omega)])
    by_cases h2 : (l1.length : Int) % a0 ≠ 0
    · rw [if_pos h2] at h
      simp only [Option.some.injEq, Prod.mk.injEq] at h
      obtain ⟨rfl, rfl⟩ := h
      have h3 : 1 ≤ a0 := by omega
      have h4 : a0 ≤ 8 := by omega
      have hq : ((l1.length : Int) % a0 == 0) = false := by simpa using h2
      have hq2 : ((l1.length : Int) % a0 != 0) = true := by simpa using h2
      clear h1 hmay h2
      go_enter Tryd.func45, Tryd.ntmps45
      go_wp2_with (first | (go_at_call 65; refine (hm _).mono ?_; rintro e w' ⟨rfl, q, rfl⟩))
      go_ret2
      exact ⟨_, rfl, Kd.R_nil _ _ _ _ _, pw_below_drewN (Below.refl _ _) _⟩
    · rw [if_neg h2] at h
      by_cases h5 : l1.length ≤ 1099511627776 ∧ ∀ x ∈ l1, 0 ≤ x ∧ x ≤ 255
      · rw [if_pos h5] at h
        simp only [Option.some.injEq, Prod.mk.injEq] at h
        obtain ⟨rfl, rfl⟩ := h
        obtain ⟨sz, rfl⟩ := Int.eq_ofNat_of_zero_le (show 0 ≤ a0 by omega)
        have hdv : l1.length / sz * sz = l1.length := Nat.div_mul_cancel (Nat.dvd_of_mod_eq_zero (by omega))
        have H := get_in 5 (by omega) sz (l1.length / sz) (by omega) (by omega) (by omega) A1 c1 l1 hdv.symm (by omega) h5.2 w (by rw [hdv]; exact hr1)
        rw [hdv] at H
        refine (callsIn_wide.1 H).mono ?_
        rintro e W' ⟨v, rfl, ho, hb⟩
        rw [Int.toNat_natCast]
        exact ⟨v, rfl, Kd.R_of_own (enc := Value.int .u64) (h1 := fun _ => rfl) ho (fun _ _ => trivial), hb⟩
      · rw [if_neg h5] at h
        cases h
end
end Go.Proofs.YtbcijmpkmmcdeaaDoor.PAll
end
section
namespace Go.Proofs.YtbcijmpkmmcdeaaDoor.PAll
open Go.RowKit Go.Shelf Go.Proofs.YtbcijmpkmmcdeaaDoorW.PrintWords Go.Proofs.YtbcijmpkmmcdeaaDoorW.PrintLast Go.Proofs.YtbcijmpkmmcdeaaDoorW.PrintMore
set_option linter.unusedVariables false
set_option linter.unusedSimpArgs false
section
attribute [local go_sem] Oper.semAt_some
set_option maxRecDepth 100000 in
set_option maxHeartbeats 2000000 in
theorem c64_chunk1_in (n : Nat) (hn : 1 ≤ n) (l Bs Bn n₀ b off sz m cap : Nat) (hsz : 0 < sz) (hsz8 : sz ≤ 8) (hreach : m * sz ≤ 1099511627776) (hcap : m * sz ≤ cap) (J Jx : Nat → World → Prop)
    (hY : ∀ k W, k < m → J k W → YieldAt Fence.wide (n - 1) Tryd.prog l #[.slice (some ⟨b, off + k * sz, none⟩) sz sz] W fun e W' =>
      (e = .returned (.bool true) ∧ J (k + 1) W' ∧ ChK n₀ Bs Bn W W') ∨ (e = .returned (.bool false) ∧ Jx (k + 1) W'))
    (hJd : ∀ k W q, J k W → J k (World.drewN W q)) (W : World) (A : Option Addr) (hA : 0 < m → A = some ⟨b, off, none⟩) (hBs : Boxed W Bs 100 (.slice A (m * sz) cap)) (hBn : Boxed W Bn 3 (.int .i64 sz)) (h0 : J 0 W) :
    CallsIn Fence.wide n Tryd.prog 67 #[.func (.yield l) #[] #[], .pointer (some ⟨Bs, 0, none⟩), .pointer (some ⟨Bn, 0, none⟩)] W fun e W' => (∃ v, e = .returned v) ∧
      (J m W' ∨ (∃ k, k ≤ m ∧ Jx k W')) := by
  refine callsIn_of_wp Tryd.func67 rfl trivial ?_ rfl
  simp only [Tryd.ntmps67, List.size_toArray, List.length_cons, List.length_nil, Nat.reduceAdd, Nat.reduceSub, Array.replicate_succ, Array.replicate_zero, List.push_toArray, List.append_toArray, List.nil_append, List.cons_append]
  gi_wp2
  gi_loopw [4] (fun i wr => ∃ k : Nat, k ≤ m ∧ i = .int .i64 (k * sz : Nat) ∧ J k wr ∧ ChK n₀ Bs Bn W wr)
    (fun i _ => m * sz - (intOf i).toNat)
  case atStart => exact ⟨0, Nat.zero_le _, by simp, h0, Below.refl _ _, rfl, rfl⟩
  case round =>
    obtain ⟨k, hk, rfl, hJs, hnx⟩ := hrel
    have hs1 : Boxed wr Bs 100 (.slice A (m * sz) cap) := hnx.2.1.trans hBs
    have hn1 : Boxed wr Bn 3 (.int .i64 sz) := hnx.2.2.trans hBn
    have hcs := hs1.cell
    have hcn := hn1.cell
    by_cases hlt : k < m
    · obtain rfl := hA (by omega)
      have hks : k * sz + sz ≤ m * sz := by rw [← Nat.succ_mul]; exact Nat.mul_le_mul_right _ hlt
      generalize hM : m * sz = M at *
      generalize hK : k * sz = K at *
      have HM := Lib.hid hM
      have HK := Lib.hid hK
      clear hM hK
      have hmin : min sz (M - K) = sz := by omega
      have hminI : min (sz : Int) ((M : Int) - (K : Int)) = sz := by omega
      gi_wp2
      gi_quiet (fail)
      obtain ⟨fn, tmps, assign, body, hy, hR⟩ := hY k (wr.drewN nq) hlt (hJd _ _ _ hJs)
      rw [HK.out] at hy
      have hnx2 : ChK n₀ Bs Bn wr (wr.drewN nq) := ⟨pw_below_drewN (Below.refl _ _) _, rfl, rfl⟩
      have e1 : K + sz - K = sz := by omega
      have hnx0 := Aside0.mk hnx
      clear hY hnx
      gi_wp2
      refine hR.mono ?_
      rintro e W3 (⟨rfl, hJ3, hk3⟩ | ⟨rfl, hJx3⟩)
      · have hn3 : Boxed W3 Bn 3 (.int .i64 sz) := hk3.2.2.trans ((hnx2.2.2).trans hn1)
        have hcn3 := hn3.cell
        clear e1
        gi_wp2
        go_roundw
        case rel => exact ⟨k + 1, by omega, by rw [Nat.succ_mul, HK.out]; simp, hJ3, ChK.t hnx0.out (ChK.t hnx2 hk3)⟩
        case measure => simp [intOf]; omega
      · gi_wp2
        refine bodyPost_ret (results_none rfl _ _ _) rfl ?_
        exact ⟨⟨_, rfl⟩, .inr ⟨k + 1, by omega, hJx3⟩⟩
    · obtain rfl : k = m := by omega
      gi_wp2
      go_end0
      exact ⟨⟨_, rfl⟩, .inl hJs⟩
theorem c64_chunk_in (n : Nat) (A : Option Addr) (len cap sz : Nat) (h1 : 1 ≤ sz) (h8 : sz ≤ 8) (w : World) :
    CallsIn Fence.wide n Tryd.prog 46 #[.slice A len cap, .int .i64 sz] w fun e w' => e = .returned (.func (.func 67) #[] #[.pointer (some ⟨w.heap.size, 0, none⟩), .pointer (some ⟨w.heap.size + 1, 0, none⟩)]) ∧
      w' = (w.alloc (.cells #[.slice A len cap] 100)).alloc (.cells #[.int .i64 sz] 3) := by
  have hd : decide ((sz : Int) < 1) = false := decide_eq_false (by omega)
  have hd2 : decide (sz < 1) = false := decide_eq_false (by omega)
  refine callsIn_of_wp Tryd.func46 rfl trivial ?_ rfl
  simp only [Tryd.ntmps46, List.size_toArray, List.length_cons, List.length_nil, Nat.reduceAdd, Nat.reduceSub, Array.replicate_succ, Array.replicate_zero, List.push_toArray, List.append_toArray, List.nil_append, List.cons_append]
  gi_wp2
  go_ret
  exact ⟨rfl, rfl⟩
theorem c64_grownBy_drewN (W : World) (q : Nat) : W.grownBy (W.drewN q) none := ⟨rfl, rfl, rfl, Nat.le_refl _, fun _ _ _ => rfl⟩
theorem c64_chunk_stops (n : Nat) (hn : 1 ≤ n) (Bs Bn n₀ b off sz m cap : Nat) (hsz : 0 < sz) (hsz8 : sz ≤ 8) (hreach : m * sz ≤ 1099511627776) (hcap : m * sz ≤ cap) (A : Option Addr) (hA : 0 < m → A = some ⟨b, off, none⟩)
    (w : World) (hBs : Boxed w Bs 100 (.slice A (m * sz) cap)) (hBn : Boxed w Bn 3 (.int .i64 sz)) :
    SeqStopsK Fence.wide n Tryd.prog 67 #[.pointer (some ⟨Bs, 0, none⟩), .pointer (some ⟨Bn, 0, none⟩)] (fun x : Fin m => #[Value.slice (some ⟨b, off + x.val * sz, none⟩) sz sz]) (ChK n₀ Bs Bn) (fun ys => ys = List.finRange m) (fun _ => True) m w := fun l J Jx W hW hJ _ hY h0 => by
  have tk : ∀ k (hk : k < m), (List.finRange m).take (k + 1) = (List.finRange m).take k ++ [⟨k, hk⟩] := fun k hk => by
    rw [List.take_succ_eq_append_getElem (by simpa using hk)]; simp
  refine (c64_chunk1_in n hn l Bs Bn n₀ b off sz m cap hsz hsz8 hreach hcap (fun k => J ((List.finRange m).take k)) (fun k => Jx ((List.finRange m).take k)) (fun k W1 hk hj => ?_) (fun pre W q hj => hJ _ W _ none hj (c64_grownBy_drewN W q) (fun r e => by cases e)) W A hA ((hW.block Bs hBs.lt).trans hBs) ((hW.block Bn hBn.lt).trans hBn) h0).mono ?_
  · simp only [tk k hk]
    exact hY _ ⟨k, hk⟩ W1 hj (by rw [List.length_take, List.length_finRange]; omega)
  · rintro e W' ⟨he, hj | ⟨k, _, hj⟩⟩
    · exact ⟨he, .inl ⟨_, by rw [List.take_of_length_le (by simp)], hj⟩⟩
    · exact ⟨he, .inr ⟨_, trivial, hj⟩⟩
end
end Go.Proofs.YtbcijmpkmmcdeaaDoor.PAll
end
section
namespace Go.Proofs.YtbcijmpkmmcdeaaDoor.PAll
open Go.RowKit Go.Proofs.YtbcijmpkmmcdeaaDoorW.PrintWords Go.Proofs.YtbcijmpkmmcdeaaDoorW.PrintLast Go.Proofs.YtbcijmpkmmcdeaaDoorW.PrintMore
attribute [local go_sem] max2_int min2_int max_two min_two max_three min_three max_four min_four
set_option linter.unusedVariables false
set_option linter.unusedSimpArgs false
def sat_bound.f (a0 : Int) : Option (Int × Bool) := some (mx (mn a0 1099511627776) (-1099511627776), (a0 != (mx (mn a0 1099511627776) (-1099511627776))))
set_option maxHeartbeats 8000000 in
set_option maxRecDepth 100000 in
theorem sat_bound.calls (a0 : Int) (r1 : Int) (r2 : Bool) (w : World) (h : sat_bound.f a0 = some (r1, r2)) :
    Calls Tryd.prog 77 #[.int .i64 a0] w fun e w' => e = .returned (.tuple #[.int .i64 r1, .bool r2]) ∧ Below w.heap.size w w' := by
  have HB := Aside0.mk (Below.refl w.heap.size w)
  have H : (some (mx (mn a0 1099511627776) (-1099511627776), (a0 != (mx (mn a0 1099511627776) (-1099511627776))))) = some (r1, r2) := h
  clear h
  obtain ⟨ji2, hji2⟩ : ∃ j_ : Int, (mn a0 1099511627776) = j_ := ⟨_, rfl⟩
  replace H : (some (mx (ji2) (-1099511627776), (a0 != (mx (ji2) (-1099511627776))))) = some (r1, r2) := by first | (rw [hji2] at H; exact H) | (simp only [hji2] at H ⊢; exact H)
  (try (have hji2h : ji2 ≤ 1099511627776 := by (rw [← hji2]; unfold mn; (repeat' split) <;> omega)))
  (try (have hji2g : ji2 ≤ 64 := by omega))
  have hji2_ : (if 1099511627776 < a0 then 1099511627776 else a0) = ji2 := hji2
  obtain ⟨ji3, hji3⟩ : ∃ j_ : Int, (mx (ji2) (-1099511627776)) = j_ := ⟨_, rfl⟩
  replace H : (some (ji3, (a0 != (ji3)))) = some (r1, r2) := by first | (rw [hji3] at H; exact H) | (simp only [hji3] at H ⊢; exact H)
  have hji3_ : (if (ji2) < (-1099511627776) then (-1099511627776) else (ji2)) = ji3 := hji3
  simp only [Option.some.injEq, Prod.mk.injEq] at H
  obtain ⟨rfl, rfl⟩ := H
  go_enter Tryd.func77, Tryd.ntmps77
  go_wp2
  go_ret2
  exact ⟨by first | rfl | (simp [errW_none, errW_some] <;> rfl) | (simp only [← hji2, ← hji3]; first | rfl | (simp [errW_none, errW_some] <;> rfl)) | (simp [*, errW_none, errW_some] <;> rfl), by repeat (first | (with_reducible first | exact HB.out | apply below_alloc | apply pw_below_drewN | apply below_drew1) | exact HB.out)⟩
end Go.Proofs.YtbcijmpkmmcdeaaDoor.PAll
end
section
namespace Go.Proofs.YtbcijmpkmmcdeaaDoor.PAll
open Go.RowKit Go.Proofs.YtbcijmpkmmcdeaaDoorW.PrintWords Go.Proofs.YtbcijmpkmmcdeaaDoorW.PrintLast Go.Proofs.YtbcijmpkmmcdeaaDoorW.PrintMore
attribute [local go_sem] max2_int min2_int max_two min_two max_three min_three max_four min_four
set_option linter.unusedVariables false
set_option linter.unusedSimpArgs false
theorem sat_add1.calls (a0 a1 : Int) (w : World) : Calls Tryd.prog 75 #[.int .i64 a0, .int .i64 a1] w fun e w' => e = .returned (.int .i64 (wrap64 (a0 + a1))) ∧ Below w.heap.size w w' := by
  go_enter Tryd.func75, Tryd.ntmps75
  go_wp2
  go_ret
  exact ⟨rfl, by repeat (first | exact Below.refl _ _ | apply below_drew1 | apply pw_below_drewN)⟩
def bnd (x : Int) : Int := mx (mn x 1099511627776) (-1099511627776)
set_option maxHeartbeats 4000000 in
set_option maxRecDepth 100000 in
theorem sat_both.calls (a0 a1 : Int) (w : World) : Calls Tryd.prog 74 #[.int .i64 a0, .int .i64 a1, .func (.func 75) #[] #[]] w fun e w' => e = .returned (.tuple #[.int .i64 (bnd (wrap64 (bnd a0 + bnd a1))), .bool ((a0 != bnd a0) || (a1 != bnd a1) || (wrap64 (bnd a0 + bnd a1) != bnd (wrap64 (bnd a0 + bnd a1))))]) ∧ Below w.heap.size w w' := by
  have hb : ∀ (x : Int) (W : World), Calls Tryd.prog 77 #[.int .i64 x] W fun e w' => e = .returned (.tuple #[.int .i64 (bnd x), .bool (x != bnd x)]) ∧ Below W.heap.size W w' := fun x W => sat_bound.calls x _ _ W rfl
  have HB := Aside0.mk hb
  clear hb
  generalize hx : bnd a0 = x at *
  generalize hy : bnd a1 = y at *
  generalize hs : wrap64 (x + y) = s at *
  generalize hz : bnd s = z at *
  have HX := Aside0.mk hx
  have HY := Aside0.mk hy
  have HS := Aside0.mk hs
  have HZ := Aside0.mk hz
  clear hx hy hs hz
  go_enter Tryd.func74, Tryd.ntmps74
  go_wp2_with (first
    | (go_at_call 77; (have h2_ := hc_); refine (HB.out s _).mono ?_; rintro e w4 ⟨rfl, hb4⟩; rw [HZ.out])
    | (go_at_call 77; (have h2_ := hq2); refine (HB.out a1 _).mono ?_; rintro e w3 ⟨rfl, hb3⟩; rw [HY.out])
    | (go_at_call 77; refine (HB.out a0 _).mono ?_; rintro e w2 ⟨rfl, hb2⟩; rw [HX.out]; have hq2 := Aside0.mk True.intro)
    | (go_at_call 75; refine (sat_add1.calls _ _ _).mono ?_; rintro e w5 ⟨rfl, hb5⟩; rw [HS.out]; have hc_ := Aside0.mk True.intro))
  all_goals go_ret2
  all_goals exact ⟨by first | rfl | (simp_all; done) | (simp [*]), below_step (below_step (below_step hb2 hb3) hb5) hb4⟩
def sat_Add.f (a0 a1 : Int) : Option (Int × Bool) := some (bnd (wrap64 (bnd a0 + bnd a1)), (a0 != bnd a0) || (a1 != bnd a1) || (wrap64 (bnd a0 + bnd a1) != bnd (wrap64 (bnd a0 + bnd a1))))
theorem sat_Add.calls (a0 : Int) (a1 : Int) (r1 : Int) (r2 : Bool) (w : World) (h : sat_Add.f a0 a1 = some (r1, r2)) :
    Calls Tryd.prog 63 #[.int .i64 a0, .int .i64 a1] w fun e w' => e = .returned (.tuple #[.int .i64 r1, .bool r2]) ∧ Below w.heap.size w w' := by
  unfold sat_Add.f at h
  simp only [Option.some.injEq, Prod.mk.injEq] at h
  obtain ⟨rfl, rfl⟩ := h
  go_enter Tryd.func63, Tryd.ntmps63
  go_wp2_with (first | (go_at_call 74; refine (sat_both.calls _ _ _).mono ?_; rintro e w2 ⟨rfl, hb2⟩))
  go_ret2
  exact ⟨rfl, hb2⟩
end Go.Proofs.YtbcijmpkmmcdeaaDoor.PAll
end
section
namespace Go.Proofs.YtbcijmpkmmcdeaaDoor.PAll
open Go.RowKit Go.Proofs.YtbcijmpkmmcdeaaDoorW.PrintWords Go.Proofs.YtbcijmpkmmcdeaaDoorW.PrintLast Go.Proofs.YtbcijmpkmmcdeaaDoorW.PrintMore
attribute [local go_sem] max2_int min2_int max_two min_two max_three min_three max_four min_four
set_option linter.unusedVariables false
set_option linter.unusedSimpArgs false
def sat_Sum.l0 : Nat → Int → Bool → List Int → Int → Int → Option (Int × Bool)
  | 0, _, _, _, _, _ => none
  | k + 1, x4, x5, x10, x11, x12 => if x12 < x11 then (if 0 ≤ x12 then (if x12 < (x10.length : Int) then ((sat_Add.f x4 (rd x10 x12)).bind fun bt112 => (if x5 = true then (sat_Sum.l0 k bt112.1 true x10 x11 (wrap64 (x12 + 1))) else (sat_Sum.l0 k bt112.1 bt112.2 x10 x11 (wrap64 (x12 + 1))))) else (none)) else (none)) else (some (x4, x5))
def sat_Sum.f (k : Nat) (l0 : List Int) : Option (Int × Bool) := sat_Sum.l0 k 0 false l0 (l0.length : Int) 0
set_option maxHeartbeats 8000000 in
set_option maxRecDepth 100000 in
theorem sat_Sum.calls (k : Nat) (A0 : Option Addr) (c0 : Nat) (l0 : List Int) (r1 : Int) (r2 : Bool) (w : World) (hr0 : Kd.C (Kd.int .i64) w A0 l0.length l0) (hc0 : l0.length ≤ c0) (h : sat_Sum.f k l0 = some (r1, r2)) :
    Calls Tryd.prog 42 #[.slice A0 l0.length c0] w fun e w' => e = .returned (.tuple #[.int .i64 r1, .bool r2]) ∧ Below w.heap.size w w' := by
  have HR0 := Aside0.mk hr0
  have HC0 := Aside0.mk hc0
  clear hr0 hc0
  have HB := Aside0.mk (Below.refl w.heap.size w)
  have H : (sat_Sum.l0 k 0 false l0 (l0.length : Int) 0) = some (r1, r2) := h
  clear h
  have H' := Aside0.mk H
  clear H
  go_enter Tryd.func42, Tryd.ntmps42
  go_wp2
  go_loopg [4, 5, 12] k (fun kq v4 v5 v12 w' => ∃ (x4_1 : Int) (x5_1 : Bool) (x12_1 : Int), v4 = .int .i64 x4_1 ∧ v5 = .bool x5_1 ∧ v12 = .int .i64 x12_1 ∧ Aside0 (sat_Sum.l0 kq x4_1 x5_1 l0 (l0.length : Int) x12_1 = some (r1, r2)) ∧ Aside0 (kq ≤ k) ∧ Aside0 (Below w.heap.size w w'))
  case atStart => exact ⟨(0), (false), (0), (by first | rfl | (simp; done) | (simp [*]; done)), (by first | rfl | (simp; done) | (simp [*]; done)), (by first | rfl | (simp; done) | (simp [*]; done)), H', ⟨Nat.le_refl _⟩, ⟨by repeat (first | (with_reducible first | exact HB.out | apply below_alloc | apply pw_below_drewN | apply below_drew1) | exact HB.out)⟩⟩
  case round =>
    clear H'
    obtain ⟨x4_1, x5_1, x12_1, rfl, rfl, rfl, HA, HK1, HB⟩ := hrel
    cases gk with
    | zero => exact absurd HA.out (by simp [sat_Sum.l0])
    | succ k1 =>
      have H := HA.out
      clear HA
      simp only [sat_Sum.l0] at H
      by_cases c2 : x12_1 < (l0.length : Int)
      · rw [if_pos c2] at H
        have c2b0 : decide (x12_1 < (l0.length : Int)) = true := decide_eq_true c2
        clear c2
        by_cases c3 : 0 ≤ x12_1
        · rw [if_pos c3] at H
          have c3b0 : decide (0 ≤ x12_1) = true := decide_eq_true c3
          clear c3
          by_cases c4 : x12_1 < (l0.length : Int)
          · rw [if_pos c4] at H
            have c4b0 : decide (x12_1 < (l0.length : Int)) = true := decide_eq_true c4
            clear c4
            replace H := Option.bind_eq_some_iff.mp H
            obtain ⟨⟨t112, t113⟩, A50, H⟩ := H
            replace H : (if x5_1 = true then (sat_Sum.l0 k1 t112 true l0 (l0.length : Int) (wrap64 (x12_1 + 1))) else (sat_Sum.l0 k1 t112 t113 l0 (l0.length : Int) (wrap64 (x12_1 + 1)))) = some (r1, r2) := H
            have A5 := Aside0.mk A50
            clear A50
            by_cases c6 : x5_1 = true
            · subst c6
              have H1 : (sat_Sum.l0 k1 t112 true l0 (l0.length : Int) (wrap64 (x12_1 + 1))) = some (r1, r2) := by rw [if_pos rfl] at H; exact H
              clear H
              have H := H1
              clear H1
              have H' := Aside0.mk H
              clear H
              have p111 : 0 ≤ (x12_1 : Int) := of_decide_eq_true (by first | (with_reducible assumption) | assumption)
              have q111 : x12_1 < (l0.length : Int) := of_decide_eq_true (by first | (with_reducible assumption) | assumption)
              obtain ⟨ad111, e111, hx111_0⟩ := Kd.at_int HR0.out x12_1 p111 q111
              cases e111
              replace hx111_0 := (HB.out.cell (World.block_lt_of_cell? w _ hx111_0)).trans hx111_0
              replace p111 := eq_true p111
              replace q111 := eq_true q111
              go_wp2_with (first | ((with_reducible refine gate_callee (f := 63) rfl ?_); refine goesL_ (some 19) rfl rfl Tryd.func63 (by kernel_rfl) rfl #[.int .i64 x4_1, .int .i64 (rd l0 x12_1)] rfl (by (try simp only [List.map_toArray, List.map_cons, List.map_nil]); first | done | rfl | (simp only [List.length_drop, List.length_take]; rfl)) ?_; (with_reducible refine (sat_Add.calls x4_1 (rd l0 x12_1) t112 t113 _ A5.out).mono ?_); rintro e w7 ⟨rfl, hb⟩; refine ⟨_, rfl, ?_⟩; have n0_ := Aside0.mk (below_step (by repeat (first | (with_reducible first | exact HB.out | apply below_alloc | apply pw_below_drewN | apply below_drew1) | exact HB.out)) hb); clear HB; have HB := n0_; clear n0_; (try clear hb); (try clear hb2); (try clear hk); (try clear hi)))
              go_roundg k1
              case measure => have := HK1.out; omega
              case rel => exact ⟨(t112), (true), (wrap64 (x12_1 + 1)), (by first | rfl | (simp; done) | (simp [*]; done)), (by first | rfl | (simp; done) | (simp [*]; done)), (by first | rfl | (simp; done) | (simp [*]; done)), H', ⟨by have := HK1.out; omega⟩, ⟨by repeat (first | (with_reducible first | exact HB.out | apply below_alloc | apply pw_below_drewN | apply below_drew1) | exact HB.out)⟩⟩
            · replace c6 := Bool.eq_false_iff.mpr c6
              subst c6
              have H1 : (sat_Sum.l0 k1 t112 t113 l0 (l0.length : Int) (wrap64 (x12_1 + 1))) = some (r1, r2) := by rw [if_neg (show ¬ (false = true) by decide)] at H; exact H
              clear H
              have H := H1
              clear H1
              have H' := Aside0.mk H
              clear H
              have p111 : 0 ≤ (x12_1 : Int) := of_decide_eq_true (by first | (with_reducible assumption) | assumption)
              have q111 : x12_1 < (l0.length : Int) := of_decide_eq_true (by first | (with_reducible assumption) | assumption)
              obtain ⟨ad111, e111, hx111_0⟩ := Kd.at_int HR0.out x12_1 p111 q111
              cases e111
              replace hx111_0 := (HB.out.cell (World.block_lt_of_cell? w _ hx111_0)).trans hx111_0
              replace p111 := eq_true p111
              replace q111 := eq_true q111
              go_wp2_with (first | ((with_reducible refine gate_callee (f := 63) rfl ?_); refine goesL_ (some 19) rfl rfl Tryd.func63 (by kernel_rfl) rfl #[.int .i64 x4_1, .int .i64 (rd l0 x12_1)] rfl (by (try simp only [List.map_toArray, List.map_cons, List.map_nil]); first | done | rfl | (simp only [List.length_drop, List.length_take]; rfl)) ?_; (with_reducible refine (sat_Add.calls x4_1 (rd l0 x12_1) t112 t113 _ A5.out).mono ?_); rintro e w8 ⟨rfl, hb⟩; refine ⟨_, rfl, ?_⟩; have n0_ := Aside0.mk (below_step (by repeat (first | (with_reducible first | exact HB.out | apply below_alloc | apply pw_below_drewN | apply below_drew1) | exact HB.out)) hb); clear HB; have HB := n0_; clear n0_; (try clear hb); (try clear hb2); (try clear hk); (try clear hi)))
              go_roundg k1
              case measure => have := HK1.out; omega
              case rel => exact ⟨(t112), (t113), (wrap64 (x12_1 + 1)), (by first | rfl | (simp; done) | (simp [*]; done)), (by first | rfl | (simp; done) | (simp [*]; done)), (by first | rfl | (simp; done) | (simp [*]; done)), H', ⟨by have := HK1.out; omega⟩, ⟨by repeat (first | (with_reducible first | exact HB.out | apply below_alloc | apply pw_below_drewN | apply below_drew1) | exact HB.out)⟩⟩
          · rw [if_neg c4] at H
            exact absurd H (by simp)
        · rw [if_neg c3] at H
          exact absurd H (by simp)
      · rw [if_neg c2] at H
        have c2b0 : decide (x12_1 < (l0.length : Int)) = false := decide_eq_false c2
        clear c2
        simp only [Option.some.injEq, Prod.mk.injEq] at H
        obtain ⟨rfl, rfl⟩ := H
        go_wp2
        go_ret2
        exact ⟨by first | rfl | (simp [errW_none, errW_some] <;> rfl) | (simp [*, errW_none, errW_some] <;> rfl), by repeat (first | (with_reducible first | exact HB.out | apply below_alloc | apply pw_below_drewN | apply below_drew1) | exact HB.out)⟩
end Go.Proofs.YtbcijmpkmmcdeaaDoor.PAll
end
section
namespace Go.Proofs.YtbcijmpkmmcdeaaDoor.PAll
open Go.RowKit Go.Proofs.YtbcijmpkmmcdeaaDoorW.PrintWords Go.Proofs.YtbcijmpkmmcdeaaDoorW.PrintLast Go.Proofs.YtbcijmpkmmcdeaaDoorW.PrintMore
attribute [local go_sem] max2_int min2_int max_two min_two max_three min_three max_four min_four
set_option linter.unusedVariables false
set_option linter.unusedSimpArgs false
def ledger_Ledger_Sum.l0 : Nat → List Int → List (S51) → Int → Int → Option (Int)
  | 0, _, _, _, _ => none
  | k + 1, x3, x9, x10, x11 => if x11 < x10 then (if 0 ≤ x11 then (if x11 < (x9.length : Int) then (if x3.length < 17592186044416 then (ledger_Ledger_Sum.l0 k (x3 ++ [(rd_T51 x9 x11).f1]) x9 x10 (wrap64 (x11 + 1))) else (none)) else (none)) else (none)) else ((sat_Sum.f k x3).bind fun bt120 => (some bt120.1))
def ledger_Ledger_Sum.f (k : Nat) (a0_0 : Int) (a0_1 : Int) (a0_2 : Int) (l0_3 : List (S51)) : Option (Int) := ledger_Ledger_Sum.l0 k ([] : List Int) l0_3 (l0_3.length : Int) 0
set_option maxHeartbeats 8000000 in
set_option maxRecDepth 100000 in
theorem ledger_Ledger_Sum.calls (k : Nat) (a0_0 : Int) (a0_1 : Int) (a0_2 : Int) (A0_3 : Option Addr) (c0_3 : Nat) (l0_3 : List (S51)) (r : Int) (w : World) (hr0_3 : Kd.C k51 w A0_3 l0_3.length l0_3) (hc0_3 : l0_3.length ≤ c0_3) (h : ledger_Ledger_Sum.f k a0_0 a0_1 a0_2 l0_3 = some r) :
    Calls Tryd.prog 20 #[.agg #[.int .i64 a0_0, .int .i64 a0_1, .int .i64 a0_2, .slice A0_3 l0_3.length c0_3]] w fun e w' => e = .returned (.int .i64 r) ∧ Below w.heap.size w w' := by
  have hu32 := Tryd.underlying32
  have hu51 := Tryd.underlying51
  have HR0_3 := Aside0.mk hr0_3
  have HC0_3 := Aside0.mk hc0_3
  clear hr0_3 hc0_3
  have HB := Aside0.mk (Below.refl w.heap.size w)
  have H : (ledger_Ledger_Sum.l0 k ([] : List Int) l0_3 (l0_3.length : Int) 0) = some r := h
  clear h
  have H' := Aside0.mk H
  clear H
  go_enter Tryd.func20, Tryd.ntmps20
  go_wp2_with (first | ((with_reducible refine gate_dst (N := 1) rfl ?_); refine box_event ?hg (N := 1) ?hd (cs := #[.int .i64 a0_0, .int .i64 a0_1, .int .i64 a0_2, .slice A0_3 l0_3.length c0_3]) (t := 32) ?hr ?_; (case hd => rfl); (case hg => rfl); (case hr => first | (go_simp; done) | (go_simp; rfl)); intro gb114 hg w2 hbox hb; have n0_ := Aside0.mk (below_step (by repeat (first | (with_reducible first | exact HB.out | apply below_alloc | apply pw_below_drewN | apply below_drew1) | exact HB.out)) hb); have n1_ := Aside0.mk (hbox); have n2_ := Aside0.mk ((by rw [hg]; exact (below_size (by repeat (first | (with_reducible first | exact HB.out | apply below_alloc | apply pw_below_drewN | apply below_drew1) | exact HB.out))) : w.heap.size ≤ gb114)); have n3_ := Aside0.mk ((by rw [hg]; exact (below_size (by repeat (first | (with_reducible first | exact HB.out | apply below_alloc | apply pw_below_drewN | apply below_drew1) | exact HB.out))) : w.heap.size ≤ gb114)); clear HB; have HB := n0_; have BK114 := n1_; have GW114 := n2_; have GE114 := n3_; clear n0_ n1_ n2_ n3_; clear hb hbox hg; have hcz3_0 : w2.cell? ⟨gb114, 0, none⟩ = some (.int .i64 a0_0) := (blk_cell BK114.out 0).trans rfl; have hcz3_1 : w2.cell? ⟨gb114, 1, none⟩ = some (.int .i64 a0_1) := (blk_cell BK114.out 1).trans rfl; have hcz3_2 : w2.cell? ⟨gb114, 2, none⟩ = some (.int .i64 a0_2) := (blk_cell BK114.out 2).trans rfl; have hcz3_3 : w2.cell? ⟨gb114, 3, none⟩ = some (.slice A0_3 l0_3.length c0_3) := (blk_cell BK114.out 3).trans rfl; have hfz3_0 := blk_frozen BK114.out 0; have hfz3_1 := blk_frozen BK114.out 1; have hfz3_2 := blk_frozen BK114.out 2; have hfz3_3 := blk_frozen BK114.out 3))
  go_loopg [3, 11] k (fun kq v3 v11 w' => ∃ (x3_1 : List Int) (x11_1 : Int), v11 = .int .i64 x11_1 ∧ Aside0 (ledger_Ledger_Sum.l0 kq x3_1 l0_3 (l0_3.length : Int) x11_1 = some r) ∧ Aside0 (kq ≤ k) ∧ Aside0 (Kd.R (Kd.int .i64) 2 w' w.heap.size (fun _ => True) v3 x3_1) ∧ Aside0 (w'.heap[gb114]? = some (.cells #[.int .i64 a0_0, .int .i64 a0_1, .int .i64 a0_2, (.slice A0_3 l0_3.length c0_3)] 32 (0, 0))) ∧ Aside0 (Below w.heap.size w w'))
  case atStart => exact ⟨(([] : List Int)), (0), (by first | rfl | (simp; done) | (simp [*]; done)), H', ⟨Nat.le_refl _⟩, ⟨by first | exact Kd.R_nil _ _ _ _ _ | exact Kd.N_nil _ _ _ _ _ | exact Kd.V_nil _ _ _ _ _ | exact Kd.Q_nil _ _ _ _ _ | exact Kd.S_nil _ _ _ _ _⟩, ⟨by (with_reducible repeat (first | refine blk_drewN ?_ _ | refine blk_drew ?_ | refine blk_alloc ?_ _)); exact BK114.out⟩, ⟨by repeat (first | (with_reducible first | exact HB.out | apply below_alloc | apply pw_below_drewN | apply below_drew1 | refine below_set ?_ GE114.out) | exact HB.out)⟩⟩
  case round =>
    clear H'
    try clear c2
    try clear p2
    try clear hcz3_0
    try clear hcz3_1
    try clear hcz3_2
    try clear hcz3_3
    try clear hfz3_0
    try clear hfz3_1
    try clear hfz3_2
    try clear hfz3_3
    obtain ⟨x3_1, x11_1, rfl, HA, HK1, HO_3, BK114, HB⟩ := hrel
    cases gk with
    | zero => exact absurd HA.out (by simp [ledger_Ledger_Sum.l0])
    | succ k1 =>
      have H := HA.out
      clear HA
      simp only [ledger_Ledger_Sum.l0] at H
      by_cases c4 : x11_1 < (l0_3.length : Int)
      · rw [if_pos c4] at H
        have c4b0 : decide (x11_1 < (l0_3.length : Int)) = true := decide_eq_true c4
        clear c4
        by_cases c5 : 0 ≤ x11_1
        · rw [if_pos c5] at H
          have c5b0 : decide (0 ≤ x11_1) = true := decide_eq_true c5
          clear c5
          by_cases c6 : x11_1 < (l0_3.length : Int)
          · rw [if_pos c6] at H
            have c6b0 : decide (x11_1 < (l0_3.length : Int)) = true := decide_eq_true c6
            clear c6
            by_cases c7 : x3_1.length < 17592186044416
            · rw [if_pos c7] at H
              have LMc7 := Aside0.mk c7
              clear c7
              obtain ⟨y117, hy117⟩ : ∃ y_ : List Int, y_ = (x3_1 ++ [(rd_T51 l0_3 x11_1).f1]) := ⟨_, rfl⟩
              replace H : (ledger_Ledger_Sum.l0 k1 y117 l0_3 (l0_3.length : Int) (wrap64 (x11_1 + 1))) = some r := by first | (rw [hy117]; with_reducible exact H) | (have H2_ := (Option.bind_some _ _).symm.trans H; rw [hy117]; with_reducible exact H2_) | (have H2_ := (Option.bind_some _ _).symm.trans H; with_reducible exact H2_) | with_reducible exact H | (rw [hy117]; exact H) | exact H
              have Ny117 := Aside0.mk hy117
              clear hy117
              have H' := Aside0.mk H
              clear H
              have p115 : 0 ≤ (x11_1 : Int) := of_decide_eq_true (by first | (with_reducible assumption) | assumption)
              have q115 : x11_1 < (l0_3.length : Int) := of_decide_eq_true (by first | (with_reducible assumption) | assumption)
              obtain ⟨ad115, e115, hx115_0, hx115_1⟩ := at_T51 HR0_3.out x11_1 p115 q115
              cases e115
              replace hx115_0 := (HB.out.cell (World.block_lt_of_cell? w _ hx115_0)).trans hx115_0
              replace hx115_1 := (HB.out.cell (World.block_lt_of_cell? w _ hx115_1)).trans hx115_1
              replace p115 := eq_true p115
              replace q115 := eq_true q115
              go_wp2_with (first | ((with_reducible refine gate_dst (N := 5) rfl ?_); refine box_event ?hg (N := 5) ?hd (cs := #[.int .i64 0, .int .i64 0]) (t := 51) ?hr ?_; (case hd => rfl); (case hg => rfl); (case hr => first | (go_simp; done) | (go_simp; rfl)); intro gb116 hg w8 hbox hb; have n0_ := Aside0.mk (Kd.R_below (by (with_reducible repeat (first | apply Kd.R_alloc | apply Kd.R_drewN | apply Kd.R_drew)); exact HO_3.out) hb); have n1_ := Aside0.mk (blk_below (g := gb114) (o := .cells #[.int .i64 a0_0, .int .i64 a0_1, .int .i64 a0_2, .slice (some ad115) l0_3.length c0_3] 32 (0, 0)) (by (with_reducible repeat (first | refine blk_drewN ?_ _ | refine blk_drew ?_ | refine blk_alloc ?_ _)); exact BK114.out) hb); have n2_ := Aside0.mk (below_step (by repeat (first | (with_reducible first | exact HB.out | apply below_alloc | apply pw_below_drewN | apply below_drew1 | refine below_set ?_ GE114.out) | exact HB.out)) hb); have n3_ := Aside0.mk (hbox); have n4_ := Aside0.mk ((by rw [hg]; exact (below_size (by repeat (first | (with_reducible first | exact HB.out | apply below_alloc | apply pw_below_drewN | apply below_drew1 | refine below_set ?_ GE114.out) | exact HB.out))) : w.heap.size ≤ gb116)); have n5_ := Aside0.mk ((by rw [hg]; exact (below_size (by repeat (first | (with_reducible first | exact HB.out | apply below_alloc | apply pw_below_drewN | apply below_drew1 | refine below_set ?_ GE114.out) | exact HB.out))) : w.heap.size ≤ gb116)); have n6_ := Aside0.mk ((by rw [hg]; exact Nat.ne_of_lt (blk_lt (g := gb114) (o := .cells #[.int .i64 a0_0, .int .i64 a0_1, .int .i64 a0_2, .slice (some ad115) l0_3.length c0_3] 32 (0, 0)) (by (with_reducible repeat (first | refine blk_drewN ?_ _ | refine blk_drew ?_ | refine blk_alloc ?_ _)); exact BK114.out)) : gb114 ≠ gb116)); have n7_ := Aside0.mk ((by rw [hg]; exact Nat.ne_of_gt (blk_lt (g := gb114) (o := .cells #[.int .i64 a0_0, .int .i64 a0_1, .int .i64 a0_2, .slice (some ad115) l0_3.length c0_3] 32 (0, 0)) (by (with_reducible repeat (first | refine blk_drewN ?_ _ | refine blk_drew ?_ | refine blk_alloc ?_ _)); exact BK114.out)) : gb116 ≠ gb114)); clear HO_3; clear BK114; clear HB; have HO_3 := n0_; have BK114 := n1_; have HB := n2_; have BK116 := n3_; have GW116 := n4_; have GE116 := n5_; have NB114_116 := n6_; have NB116_114 := n7_; clear n0_ n1_ n2_ n3_ n4_ n5_ n6_ n7_; clear hb hbox hg; have hnb9 := NB116_114.out; have hnc9 := NB114_116.out; have hcz10_0 : w8.cell? ⟨gb116, 0, none⟩ = some (.int .i64 0) := (blk_cell BK116.out 0).trans rfl; have hcz10_1 : w8.cell? ⟨gb116, 1, none⟩ = some (.int .i64 0) := (blk_cell BK116.out 1).trans rfl; have hfz10_0 := blk_frozen BK116.out 0; have hfz10_1 := blk_frozen BK116.out 1) | ((with_reducible refine gate_builtin (b := .append) (xs := #[.tmp 15, .tmp 18]) rfl ?_); at_builtin; refine Kd.R_append (Kd.int .i64) (w0 := w) w.heap.size rfl (.tmp 15) (.tmp 18) 93 2 (.int .i64 0) 8 rfl Tryd.underlying93 info2 rfl (by decide) (by omega) u3 x3_1 ((rd_T51 l0_3 x11_1).f1) [.int .i64 ((rd_T51 l0_3 x11_1).f1)] (fun _ => True) (fun _ => False) rfl (by first | (go_simp; done) | (go_simp; rfl)) ?aP (fun _ hk => hk.elim) ?aF ?aO ?aB ?aS ?aL ?_; (case aP => exact rfl); (case aB => exact (by repeat (first | (with_reducible first | exact HB.out | apply below_alloc | apply pw_below_drewN | apply below_drew1 | refine below_set ?_ GE114.out | refine below_set ?_ GE116.out) | exact HB.out))); (case aF => exact (fun _ _ => trivial)); (case aO => exact (by (with_reducible repeat (first | apply Kd.R_alloc | apply Kd.R_drewN | apply Kd.R_drew)); exact Kd.R_mono (Kd.R_far (p := ⟨gb116, 1, none⟩) (Kd.R_far (p := ⟨gb116, 0, none⟩) (Kd.R_types HO_3.out BK116.out (by decide)) (fun _ hk => hk.2) (.int .i64 ((rd_T51 l0_3 x11_1).f0))) (fun _ hk => hk.2) (.int .i64 ((rd_T51 l0_3 x11_1).f1))) (fun _ hk => trivial))); (case aS => exact (below_size (by repeat (first | (with_reducible first | exact HB.out | apply below_alloc | apply pw_below_drewN | apply below_drew1 | refine below_set ?_ GE114.out | refine below_set ?_ GE116.out) | exact HB.out)))); (case aL => have := LMc7.out; omega); intro v118 w11 ho hb hg hat; rw [← Ny117.out] at ho; have n0_ := Aside0.mk (blk_grown (g := gb114) (o := .cells #[.int .i64 a0_0, .int .i64 a0_1, .int .i64 a0_2, .slice (some ad115) l0_3.length c0_3] 32 (0, 0)) (by (with_reducible repeat (first | refine blk_drewN ?_ _ | refine blk_drew ?_ | refine blk_alloc ?_ _)); refine blk_far ?_ NB114_116.out _; (with_reducible repeat (first | refine blk_drewN ?_ _ | refine blk_drew ?_ | refine blk_alloc ?_ _)); refine blk_far ?_ NB114_116.out _; (with_reducible repeat (first | refine blk_drewN ?_ _ | refine blk_drew ?_ | refine blk_alloc ?_ _)); exact BK114.out) hg (Kd.R_ne HO_3.out BK114.out (by decide))); have n1_ := Aside0.mk (blk_grown (g := gb116) (o := .cells #[.int .i64 ((rd_T51 l0_3 x11_1).f0), .int .i64 ((rd_T51 l0_3 x11_1).f1)] 51 (0, 0)) (by (with_reducible repeat (first | refine blk_drewN ?_ _ | refine blk_drew ?_ | refine blk_alloc ?_ _)); refine blk_put (cs := #[.int .i64 ((rd_T51 l0_3 x11_1).f0), .int .i64 0]) ?_ 1 _ rfl; (with_reducible repeat (first | refine blk_drewN ?_ _ | refine blk_drew ?_ | refine blk_alloc ?_ _)); refine blk_put (cs := #[.int .i64 0, .int .i64 0]) ?_ 0 _ rfl; (with_reducible repeat (first | refine blk_drewN ?_ _ | refine blk_drew ?_ | refine blk_alloc ?_ _)); exact BK116.out) hg (Kd.R_ne HO_3.out BK116.out (by decide))); have n2_ := Aside0.mk (hb); have n3_ := Aside0.mk (ho); clear BK114; clear BK116; clear HB; clear HO_3; have BK114 := n0_; have BK116 := n1_; have HB := n2_; have HO119 := n3_; clear n0_ n1_ n2_ n3_; clear ho hb hg hat))
              go_roundg k1
              case measure => have := HK1.out; omega
              case rel => exact ⟨(y117), (wrap64 (x11_1 + 1)), (by first | rfl | (simp; done) | (simp [*]; done)), H', ⟨by have := HK1.out; omega⟩, ⟨by (with_reducible repeat (first | apply Kd.R_alloc | apply Kd.R_drewN | apply Kd.R_drew)); exact HO119.out⟩, ⟨by (with_reducible repeat (first | refine blk_drewN ?_ _ | refine blk_drew ?_ | refine blk_alloc ?_ _)); exact BK114.out⟩, ⟨by repeat (first | (with_reducible first | exact HB.out | apply below_alloc | apply pw_below_drewN | apply below_drew1 | refine below_set ?_ GE114.out | refine below_set ?_ GE116.out) | exact HB.out)⟩⟩
            · rw [if_neg c7] at H
              exact absurd H (by simp)
          · rw [if_neg c6] at H
            exact absurd H (by simp)
        · rw [if_neg c5] at H
          exact absurd H (by simp)
      · rw [if_neg c4] at H
        have c4b0 : decide (x11_1 < (l0_3.length : Int)) = false := decide_eq_false c4
        clear c4
        replace H := Option.bind_eq_some_iff.mp H
        obtain ⟨⟨t120, t121⟩, A120, H⟩ := H
        replace H : (some t120) = some r := H
        have A12 := Aside0.mk A120
        clear A120
        obtain rfl := Option.some.inj H
        obtain ⟨Ao13, co13, eo13⟩ := Kd.R_slice HO_3.out
        subst eo13
        go_wp2_with (first | ((with_reducible refine gate_callee (f := 42) rfl ?_); refine goesL_ (some 23) rfl rfl Tryd.func42 (by kernel_rfl) rfl #[.slice Ao13 x3_1.length co13] rfl (by (try simp only [List.map_toArray, List.map_cons, List.map_nil]); first | done | rfl | (simp only [List.length_drop, List.length_take]; rfl)) ?_; (with_reducible refine (sat_Sum.calls k1 _ _ x3_1 t120 t121 _ ?side1 ?side2 A12.out).mono ?_); (case side1 => repeat (first | exact (Kd.R_reads' HO_3.out).2.2 | (with_reducible refine Kd.C_alloc ?_ _) | (with_reducible refine Kd.C_drewN ?_ _) | (with_reducible refine Kd.C_drew ?_))); (case side2 => exact (Kd.R_reads' HO_3.out).2.1); rintro e w14 ⟨rfl, hb⟩; refine ⟨_, rfl, ?_⟩; have n0_ := Aside0.mk (Kd.R_below (by (with_reducible repeat (first | apply Kd.R_alloc | apply Kd.R_drewN | apply Kd.R_drew)); exact HO_3.out) hb); have n1_ := Aside0.mk (blk_below (g := gb114) (o := .cells #[.int .i64 a0_0, .int .i64 a0_1, .int .i64 a0_2, .slice A0_3 l0_3.length c0_3] 32 (0, 0)) (by (with_reducible repeat (first | refine blk_drewN ?_ _ | refine blk_drew ?_ | refine blk_alloc ?_ _)); exact BK114.out) hb); have n2_ := Aside0.mk (below_step (by repeat (first | (with_reducible first | exact HB.out | apply below_alloc | apply pw_below_drewN | apply below_drew1 | refine below_set ?_ GE114.out) | exact HB.out)) hb); clear HO_3; clear BK114; clear HB; have HO_3 := n0_; have BK114 := n1_; have HB := n2_; clear n0_ n1_ n2_; (try clear hb); (try clear hb2); (try clear hk); (try clear hi)))
        go_ret
        exact ⟨by first | rfl | (simp [errW_none, errW_some] <;> rfl) | (simp [*, errW_none, errW_some] <;> rfl), by repeat (first | (with_reducible first | exact HB.out | apply below_alloc | apply pw_below_drewN | apply below_drew1 | refine below_set ?_ GE114.out) | exact HB.out)⟩
end Go.Proofs.YtbcijmpkmmcdeaaDoor.PAll
end
section
namespace Go.Proofs.YtbcijmpkmmcdeaaDoor.PAll
open Go.RowKit Go.Proofs.YtbcijmpkmmcdeaaDoorW.PrintWords Go.Proofs.YtbcijmpkmmcdeaaDoorW.PrintLast Go.Proofs.YtbcijmpkmmcdeaaDoorW.PrintMore
attribute [local go_sem] max2_int min2_int max_two min_two max_three min_three max_four min_four
set_option linter.unusedVariables false
set_option linter.unusedSimpArgs false
def ledger_known.f (a0 : Int) : Option (Bool) := if a0 ≥ 0 then (some (decide (a0 < 64))) else (some false)
set_option maxHeartbeats 8000000 in
set_option maxRecDepth 100000 in
theorem ledger_known.calls (a0 : Int) (r : Bool) (w : World) (h : ledger_known.f a0 = some r) :
    Calls Tryd.prog 60 #[.int .i64 a0] w fun e w' => e = .returned (.bool r) ∧ Drawn0 w w' := by
  have H : (if a0 ≥ 0 then (some (decide (a0 < 64))) else (some false)) = some r := h
  clear h
  by_cases c2 : a0 ≥ 0
  · rw [if_pos c2] at H
    have c2b0 : decide (0 ≤ a0) = true := decide_eq_true c2
    clear c2
    obtain rfl := Option.some.inj H
    go_enter Tryd.func60, Tryd.ntmps60
    go_wp2
    go_ret
    exact ⟨by first | rfl | (simp; done) | (simp [*]; done), by repeat (first | exact Drawn0.refl _ | apply Drawn0.step)⟩
  · rw [if_neg c2] at H
    have c2b0 : decide (0 ≤ a0) = false := decide_eq_false c2
    clear c2
    obtain rfl := Option.some.inj H
    go_enter Tryd.func60, Tryd.ntmps60
    go_wp2
    go_ret
    exact ⟨by first | rfl | (simp; done) | (simp [*]; done), by repeat (first | exact Drawn0.refl _ | apply Drawn0.step)⟩
end Go.Proofs.YtbcijmpkmmcdeaaDoor.PAll
end
section
namespace Go.Proofs.YtbcijmpkmmcdeaaDoor.PAll
open Go.RowKit Go.Proofs.YtbcijmpkmmcdeaaDoorW.PrintWords Go.Proofs.YtbcijmpkmmcdeaaDoorW.PrintLast Go.Proofs.YtbcijmpkmmcdeaaDoorW.PrintMore
attribute [local go_sem] max2_int min2_int max_two min_two max_three min_three max_four min_four
set_option linter.unusedVariables false
set_option linter.unusedSimpArgs false
def ledger_power.f (a0 : Int) : Option (Bool) := if a0 ≥ 0 then (some (decide (a0 ≤ 1048576))) else (some false)
set_option maxHeartbeats 8000000 in
set_option maxRecDepth 100000 in
theorem ledger_power.calls (a0 : Int) (r : Bool) (w : World) (h : ledger_power.f a0 = some r) :
    Calls Tryd.prog 61 #[.int .i64 a0] w fun e w' => e = .returned (.bool r) ∧ Drawn0 w w' := by
  have H : (if a0 ≥ 0 then (some (decide (a0 ≤ 1048576))) else (some false)) = some r := h
  clear h
  by_cases c2 : a0 ≥ 0
  · rw [if_pos c2] at H
    have c2b0 : decide (0 ≤ a0) = true := decide_eq_true c2
    clear c2
    obtain rfl := Option.some.inj H
    go_enter Tryd.func61, Tryd.ntmps61
    go_wp2
    go_ret
    exact ⟨by first | rfl | (simp; done) | (simp [*]; done), by repeat (first | exact Drawn0.refl _ | apply Drawn0.step)⟩
  · rw [if_neg c2] at H
    have c2b0 : decide (0 ≤ a0) = false := decide_eq_false c2
    clear c2
    obtain rfl := Option.some.inj H
    go_enter Tryd.func61, Tryd.ntmps61
    go_wp2
    go_ret
    exact ⟨by first | rfl | (simp; done) | (simp [*]; done), by repeat (first | exact Drawn0.refl _ | apply Drawn0.step)⟩
end Go.Proofs.YtbcijmpkmmcdeaaDoor.PAll
end
section
namespace Go.Proofs.YtbcijmpkmmcdeaaDoor.PChk
open Go.RowKit Go.Proofs.YtbcijmpkmmcdeaaDoor.PAll Go.Proofs.YtbcijmpkmmcdeaaDoorW.PrintWords Go.Proofs.YtbcijmpkmmcdeaaDoorW.PrintLast Go.Proofs.YtbcijmpkmmcdeaaDoorW.PrintMore
set_option linter.unusedVariables false
set_option linter.unusedSimpArgs false
def ixs (l : List S51) (g : S51 → Bool) : Nat → Int := fun i => if (l.drop i).findIdx g < (l.drop i).length then ((i + (l.drop i).findIdx g : Nat) : Int) else -1
def ixf (l : List S51) (g : S51 → Bool) : Int := if l.findIdx g < l.length then (l.findIdx g : Int) else -1
theorem ixs_zero (l : List S51) (g : S51 → Bool) : ixf l g = ixs l g 0 := by simp [ixf, ixs]
theorem ixs_end (l : List S51) (g : S51 → Bool) : ixs l g l.length = -1 := by simp [ixs]
theorem rd_T51_nat (l : List S51) (i : Nat) (h : i < l.length) : rd_T51 l (i : Int) = l[i] := by
  unfold rd_T51
  first
    | (rw [Int.toNat_natCast, List.getD_eq_getElem?_getD, List.getElem?_eq_getElem h, Option.getD_some])
    | (simp [h])
theorem ixs_step (l : List S51) (g : S51 → Bool) (i : Nat) (h : i < l.length) : ixs l g i = if g (rd_T51 l (i : Int)) = true then (i : Int) else ixs l g (i + 1) := by
  rw [rd_T51_nat l i h]
  unfold ixs
  rw [List.drop_eq_getElem_cons h, List.findIdx_cons]
  cases hg : g l[i] with
  | true => have : ¬ (l.length - i = 0) := (by omega); simp [this]
  | false =>
    simp only [cond_false, List.length_cons, Bool.false_eq_true, if_false]
    by_cases h2 : (l.drop (i + 1)).findIdx g < (l.drop (i + 1)).length
    · rw [if_pos (by omega), if_pos h2]; omega
    · rw [if_neg (by omega), if_neg h2]
theorem ix_wrap (n : Nat) (h : n ≤ 1099511627776) : wrap64 ((n : Int) + 1) = ((n + 1 : Nat) : Int) := by unfold wrap64; omega
theorem fit_i51 : ∃ i, Tryd.prog.info? 51 = some i := Option.isSome_iff_exists.1 (by kernel_rfl)
def sumP : List S51 → Int
  | [] => 0
  | p :: ps => p.f1 + sumP ps
theorem w_small (x : Int) (h : -4611686018427387904 ≤ x ∧ x ≤ 4611686018427387904) : wrap64 x = x := by unfold wrap64; omega
theorem bnd_small (x : Int) (h : -1099511627776 ≤ x ∧ x ≤ 1099511627776) : bnd x = x := by
  unfold bnd mx mn
  split <;> split <;> omega
theorem add_small (x y : Int) (hx : 0 ≤ x ∧ x ≤ 549755813888) (hy : 0 ≤ y ∧ y ≤ 549755813888) : sat_Add.f x y = some (x + y, false) := by
  have e1 : bnd x = x := bnd_small x (by omega)
  have e2 : bnd y = y := bnd_small y (by omega)
  have e3 : wrap64 (x + y) = x + y := w_small _ (by omega)
  have e4 : bnd (x + y) = x + y := bnd_small _ (by omega)
  unfold sat_Add.f
  rw [e1, e2, e3, e4]
  simp
theorem rd_nat (l : List Int) (i : Nat) (h : i < l.length) : rd l (i : Int) = l[i] := by
  unfold rd; rw [Int.toNat_natCast, List.getD_eq_getElem?_getD, List.getElem?_eq_getElem h, Option.getD_some]
theorem wi (i : Nat) (h : i ≤ 100000) : wrap64 ((i : Int) + 1) = ((i + 1 : Nat) : Int) := by rw [w_small _ (by omega)]; omega
theorem sat_l0 (l : List Int) (hb : ∀ x ∈ l, 0 ≤ x ∧ x ≤ 1048576) (hl : l.length ≤ 10000) (d : Nat) : ∀ (i k : Nat) (acc : Int), l.length - i = d → i ≤ l.length → d < k → 0 ≤ acc → acc ≤ 1048576 * i →
    sat_Sum.l0 k acc false l (l.length : Int) (i : Int) = some (acc + (l.drop i).sum, false) := by
  induction d with
  | zero =>
    intro i k acc hd hi hk h0 h1
    obtain ⟨k, rfl⟩ : ∃ m, k = m + 1 := ⟨k - 1, by omega⟩
    simp only [sat_Sum.l0]
    rw [if_neg (by omega), List.drop_of_length_le (by omega)]
    simp
  | succ d ih =>
    intro i k acc hd hi hk h0 h1
    obtain ⟨k, rfl⟩ : ∃ m, k = m + 1 := ⟨k - 1, by omega⟩
    have hlt : i < l.length := by omega
    have hx := hb l[i] (List.getElem_mem hlt)
    simp only [sat_Sum.l0]
    rw [if_pos (by omega), if_pos (by omega), if_pos (by omega), rd_nat l i hlt, add_small acc l[i] (by omega) (by omega), Option.bind_some, if_neg (by decide), wi i (by omega), ih (i + 1) k (acc + l[i]) (by omega) (by omega) (by omega) (by omega) (by omega), List.drop_eq_getElem_cons hlt, List.sum_cons, Int.add_assoc]
theorem sat_ev (l : List Int) (hb : ∀ x ∈ l, 0 ≤ x ∧ x ≤ 1048576) (hl : l.length ≤ 10000) (k : Nat) (hk : l.length + 1 ≤ k) : sat_Sum.f k l = some (l.sum, false) := by
  have h := sat_l0 l hb hl l.length 0 k 0 (by omega) (by omega) (by omega) (by omega) (by omega)
  rw [Int.zero_add, List.drop_zero] at h
  exact h
theorem sumP_sum (l : List S51) : sumP l = (l.map S51.f1).sum := by
  induction l with
  | nil => rfl
  | cons x xs ih => simp only [sumP, ih, List.map_cons, List.sum_cons]
theorem sum_l0 (l : List S51) (hb : ∀ p ∈ l, 0 ≤ p.f1 ∧ p.f1 ≤ 1048576) (hl : l.length ≤ 10000) (d : Nat) : ∀ (i k : Nat), l.length - i = d → i ≤ l.length → d + l.length + 1 < k →
    ledger_Ledger_Sum.l0 k ((l.take i).map S51.f1) l (l.length : Int) (i : Int) = some (sumP l) := by
  induction d with
  | zero =>
    intro i k hd hi hk
    obtain ⟨k, rfl⟩ : ∃ m, k = m + 1 := ⟨k - 1, by omega⟩
    simp only [ledger_Ledger_Sum.l0]
    rw [if_neg (by omega), List.take_of_length_le (by omega), sat_ev _ (by
      intro x hx
      obtain ⟨p, hp, rfl⟩ := List.mem_map.1 hx
      exact hb p hp) (by rw [List.length_map]; omega) k (by rw [List.length_map]; omega), Option.bind_some, sumP_sum]
  | succ d ih =>
    intro i k hd hi hk
    obtain ⟨k, rfl⟩ : ∃ m, k = m + 1 := ⟨k - 1, by omega⟩
    have hlt : i < l.length := by omega
    have hr := rd_T51_nat l i hlt
    simp only [ledger_Ledger_Sum.l0]
    rw [if_pos (by omega), if_pos (by omega), if_pos (by omega), if_pos (by rw [List.length_map, List.length_take]; omega), wi i (by omega), hr]
    have ht : (l.take i).map S51.f1 ++ [l[i].f1] = (l.take (i + 1)).map S51.f1 := by
      rw [List.take_add_one, List.getElem?_eq_getElem hlt, List.map_append]; rfl
    rw [ht]
    exact ih (i + 1) k (by omega) (by omega) (by omega)
theorem sum_ev (b m cr : Int) (l : List S51) (hb : ∀ p ∈ l, 0 ≤ p.f1 ∧ p.f1 ≤ 1048576) (hl : l.length ≤ 10000) (k : Nat) (hk : 2 * l.length + 2 ≤ k) : ledger_Ledger_Sum.f k b m cr l = some (sumP l) := by
  have h := sum_l0 l hb hl l.length 0 k (by omega) (by omega) (by omega)
  exact h
theorem sumP_bound (l : List S51) (hb : ∀ p ∈ l, 0 ≤ p.f1 ∧ p.f1 ≤ 1048576) : 0 ≤ sumP l ∧ sumP l ≤ 1048576 * l.length := by
  induction l with
  | nil => simp [sumP]
  | cons x xs ih =>
    obtain ⟨h1, h2⟩ := ih (fun p hp => hb p (List.mem_cons_of_mem _ hp))
    have h3 := hb x (List.mem_cons_self ..)
    simp only [sumP, List.length_cons]
    omega
set_option maxHeartbeats 4000000 in
set_option maxRecDepth 100000 in
theorem ck_fn.calls (p : S51) (B : Nat) (car : Int) (W : World) (hB : W.cell? ⟨B, 0, none⟩ = some (.int .i64 car)) :
    Calls Tryd.prog 59 #[.agg #[.int .i64 p.f0, .int .i64 p.f1], .pointer (some ⟨B, 0, none⟩)] W fun e w' => e = .returned (.bool (p.f0 == car)) ∧ Below W.heap.size W w' := by
  have hu51 := Tryd.underlying51
  have hB2 := fun o : Obj => (World.cell?_alloc_lt W o ⟨B, 0, none⟩ (World.block_lt_of_cell? W _ hB)).trans hB
  go_enter Tryd.func59, Tryd.ntmps59
  go_wp2
  go_ret
  exact ⟨rfl, by repeat (first | exact Below.refl _ _ | apply below_alloc | apply below_drew1 | apply pw_below_drewN)⟩
set_option maxHeartbeats 4000000 in
set_option maxRecDepth 100000 in
theorem index_ck.calls (A0 : Option Addr) (c0 : Nat) (l0 : List S51) (B : Nat) (g : S51 → Bool) (w : World) (hr0 : Kd.C k51 w A0 l0.length l0) (hc0 : l0.length ≤ c0) (hM : l0.length ≤ 1099511627776)
    (hK : ∀ (p : S51) (W : World), Below w.heap.size w W → Calls Tryd.prog 59 #[.agg #[.int .i64 p.f0, .int .i64 p.f1], .pointer (some ⟨B, 0, none⟩)] W fun e w' => e = .returned (.bool (g p)) ∧ Below W.heap.size W w') :
    Calls Tryd.prog 72 #[.slice A0 l0.length c0, .func (.func 59) #[] #[.pointer (some ⟨B, 0, none⟩)]] w fun e w' => e = .returned (.int .i64 (ixf l0 g)) ∧ Below w.heap.size w w' := by
  have hu51 := Tryd.underlying51
  have HR0 := Aside0.mk hr0
  have HM := Aside0.mk hM
  have HK := Aside0.mk hK
  have HB := Aside0.mk (Below.refl w.heap.size w)
  clear hr0 hM hK
  go_enter Tryd.func72, Tryd.ntmps72
  go_wp2
  go_loopg [8] l0.length (fun gh v8 w' => ∃ i : Nat, v8 = .int .i64 i ∧ Aside0 (gh + i = l0.length) ∧ Aside0 (ixf l0 g = ixs l0 g i) ∧ Aside0 (Below w.heap.size w w'))
  case atStart => exact ⟨0, rfl, ⟨by omega⟩, ⟨ixs_zero l0 g⟩, HB⟩
  case round =>
    clear HB
    obtain ⟨i, rfl, HI, HX, HB⟩ := hrel
    cases gk with
    | zero =>
      have hlt : decide ((i : Int) < (l0.length : Int)) = false := decide_eq_false (by have := HI.out; omega)
      have hi : i = l0.length := by have := HI.out; omega
      subst hi
      have hx := HX.out
      rw [ixs_end] at hx
      have HX2 := Aside0.mk hx
      clear hx
      go_wp2
      go_ret
      exact ⟨by rw [HX2.out]; rfl, HB.out⟩
    | succ gko =>
      have hilt : i < l0.length := by have := HI.out; omega
      have hlt : decide ((i : Int) < (l0.length : Int)) = true := decide_eq_true (by omega)
      have p1 : (0 : Int) ≤ (i : Int) := by omega
      have q1 : (i : Int) < (l0.length : Int) := by omega
      obtain ⟨ad1, e1, hx0, hx1⟩ := at_T51 HR0.out (i : Int) p1 q1
      cases e1
      rw [Int.toNat_natCast] at hx0 hx1
      replace hx0 := (HB.out.cell (World.block_lt_of_cell? w _ hx0)).trans hx0
      replace hx1 := (HB.out.cell (World.block_lt_of_cell? w _ hx1)).trans hx1
      replace p1 := eq_true p1
      replace q1 := eq_true q1
      have HLT := Aside0.mk hilt
      have hcall := HK.out (rd_T51 l0 (i : Int)) _ HB.out
      have hxs := HX.out
      rw [ixs_step l0 g i hilt] at hxs
      clear hilt
      by_cases hg : g (rd_T51 l0 (i : Int)) = true
      · rw [hg] at hcall hxs
        rw [if_pos rfl] at hxs
        have HXS := Aside0.mk hxs
        have HCALL := Aside0.mk hcall
        clear hcall hxs hg
        go_wp2_with (first | (go_at_call 59; refine HCALL.out.mono ?_; rintro e w2 ⟨rfl, hb2⟩))
        go_ret
        exact ⟨by rw [HXS.out]; rfl, below_step HB.out hb2⟩
      · rw [Bool.not_eq_true] at hg
        rw [hg] at hcall hxs
        rw [if_neg (by decide)] at hxs
        have HXS := Aside0.mk hxs
        have HCALL := Aside0.mk hcall
        clear hcall hxs hg
        go_wp2_with (first | (go_at_call 59; refine HCALL.out.mono ?_; rintro e w2 ⟨rfl, hb2⟩))
        go_roundg gko
        case measure => omega
        case rel => exact ⟨i + 1, by rw [ix_wrap i (by have := HM.out; have := HLT.out; omega)], ⟨by have := HI.out; omega⟩, HXS, ⟨below_step HB.out hb2⟩⟩
theorem contains.calls (A0 : Option Addr) (c0 : Nat) (l0 : List S51) (B : Nat) (car : Int) (w : World) (hr0 : Kd.C k51 w A0 l0.length l0) (hc0 : l0.length ≤ c0) (hM : l0.length ≤ 1099511627776) (hB : w.cell? ⟨B, 0, none⟩ = some (.int .i64 car)) :
    Calls Tryd.prog 58 #[.slice A0 l0.length c0, .func (.func 59) #[] #[.pointer (some ⟨B, 0, none⟩)]] w fun e w' => e = .returned (.bool (decide (0 ≤ ixf l0 fun p => p.f0 == car))) ∧ Below w.heap.size w w' := by
  have h := index_ck.calls A0 c0 l0 B (fun p => p.f0 == car) w hr0 hc0 hM (fun p W hb => ck_fn.calls p B car W ((hb.cell (World.block_lt_of_cell? w _ hB)).trans hB))
  go_enter Tryd.func58, Tryd.ntmps58
  go_wp2_with (first | (go_at_call 72; refine h.mono ?_; rintro e w2 ⟨rfl, hb2⟩))
  go_ret
  exact ⟨rfl, hb2⟩
theorem power_is (x : Int) (h : ledger_power.f x = some true) : 0 ≤ x ∧ x ≤ 1048576 := by
  unfold ledger_power.f at h
  split at h
  · simp at h; omega
  · simp at h
def okP (p : S51) : Prop := 0 ≤ p.f1 ∧ p.f1 ≤ 1048576
def pwB (x : Int) : Bool := decide (0 ≤ x ∧ x ≤ 1048576)
def knB (x : Int) : Bool := decide (0 ≤ x ∧ x < 64)
theorem pwB_ev (x : Int) : ledger_power.f x = some (pwB x) := by
  unfold ledger_power.f pwB
  by_cases h : 0 ≤ x
  · rw [if_pos h]; congr 1; simp [h]
  · rw [if_neg h]; congr 1; simp [h]
theorem knB_ev (x : Int) : ledger_known.f x = some (knB x) := by
  unfold ledger_known.f knB
  by_cases h : 0 ≤ x
  · rw [if_pos h]; congr 1; simp [h]
  · rw [if_neg h]; congr 1; simp [h]
def rowB (l : List S51) (i : Nat) : Bool := !(decide (0 ≤ ixf (l.take i) fun q => q.f0 == (rd_T51 l (i : Int)).f0)) && (knB (rd_T51 l (i : Int)).f0 && pwB (rd_T51 l (i : Int)).f1)
def rowsB (l : List S51) (n : Nat) : Bool := (List.range n).all (rowB l)
def chkB (b m cr : Int) (l : List S51) : Bool := rowsB l l.length && (pwB b && (pwB m && (pwB cr && decide (sumP l ≤ b))))
theorem rowsB_succ (l : List S51) (n : Nat) : rowsB l (n + 1) = (rowsB l n && rowB l n) := by
  unfold rowsB; rw [List.range_succ, List.all_append]; simp
theorem rowsB_no (l : List S51) (i n : Nat) (h : i < n) (hr : rowB l i = false) : rowsB l n = false := by
  unfold rowsB; rw [List.all_eq_false]; exact ⟨i, List.mem_range.2 h, by rw [hr]; decide⟩
theorem chkB_no (b m cr : Int) (l : List S51) (i : Nat) (h : i < l.length) (hr : rowB l i = false) : chkB b m cr l = false := by
  unfold chkB; rw [rowsB_no l i l.length h hr, Bool.false_and]
set_option maxHeartbeats 4000000 in
set_option maxRecDepth 100000 in
theorem Check_calls (b m cr : Int) (A0 : Option Addr) (c0 : Nat) (l0 : List S51) (w : World) (hr0 : Kd.C k51 w A0 l0.length l0) (hc0 : l0.length ≤ c0) (hl : l0.length ≤ 1000) :
    Calls Tryd.prog 35 #[.agg #[.int .i64 b, .int .i64 m, .int .i64 cr, .slice A0 l0.length c0]] w fun e w' => e = .returned (.bool (chkB b m cr l0)) ∧ Below w.heap.size w w' := by
  have hu32 := Tryd.underlying32
  have hu51 := Tryd.underlying51
  have HR0 := Aside0.mk hr0
  have HC0 := Aside0.mk hc0
  have HL := Aside0.mk hl
  clear hr0 hc0 hl
  have HG0 := Aside0.mk (blk_new w (.cells #[.int .i64 b, .int .i64 m, .int .i64 cr, .slice A0 l0.length c0] 32))
  have HB0 := Aside0.mk (below_alloc (Below.refl w.heap.size w) (.cells #[.int .i64 b, .int .i64 m, .int .i64 cr, .slice A0 l0.length c0] 32))
  go_enter Tryd.func35, Tryd.ntmps35
  go_wp2
  go_loopg [9] l0.length (fun g v9 w' => ∃ i : Nat, v9 = .int .i64 i ∧ Aside0 (g + i = l0.length) ∧ Aside0 (∀ p ∈ l0.take i, okP p) ∧ Aside0 (rowsB l0 i = true) ∧ Aside0 (w'.heap[w.heap.size]? = some (.cells #[.int .i64 b, .int .i64 m, .int .i64 cr, .slice A0 l0.length c0] 32 (0, 0))) ∧ Aside0 (Below w.heap.size w w'))
  case atStart => exact ⟨0, rfl, ⟨by omega⟩, ⟨by simp⟩, ⟨rfl⟩, HG0, HB0⟩
  case round =>
    clear HG0 HB0
    obtain ⟨i, rfl, HI, HV, HRB, HG, HB⟩ := hrel
    cases gk with
    | zero =>
      have hlt : decide ((i : Int) < (l0.length : Int)) = false := decide_eq_false (by have := HI.out; omega)
      have hi : i = l0.length := by have := HI.out; omega
      subst hi
      rw [List.take_length] at HV
      go_wp2
      obtain ⟨p1, hp1⟩ : ∃ p, p = pwB b := ⟨_, rfl⟩
      have h1 := pwB_ev b
      rw [← hp1] at h1
      obtain ⟨p2, hp2⟩ : ∃ p, p = pwB m := ⟨_, rfl⟩
      have h2 := pwB_ev m
      rw [← hp2] at h2
      obtain ⟨p3, hp3⟩ : ∃ p, p = pwB cr := ⟨_, rfl⟩
      have h3 := pwB_ev cr
      rw [← hp3] at h3
      have HCK := Aside0.mk (show chkB b m cr l0 = (p1 && (p2 && (p3 && decide (sumP l0 ≤ b)))) by unfold chkB; rw [HRB.out, Bool.true_and, ← hp1, ← hp2, ← hp3])
      clear hp1 hp2 hp3
      have H1 := Aside0.mk h1
      have H2 := Aside0.mk h2
      have H3 := Aside0.mk h3
      have g0 := (blk_cell HG.out 0).trans (rfl : _ = some (Value.int .i64 b))
      have g1 := (blk_cell HG.out 1).trans (rfl : _ = some (Value.int .i64 m))
      have g2 := (blk_cell HG.out 2).trans (rfl : _ = some (Value.int .i64 cr))
      clear h1 h2 h3 hlt
      have HQ := Aside0.mk (fun (x : Int) (r : Bool) (W : World) (h : ledger_power.f x = some r) => (ledger_power.calls x r W h).mono (fun e w' h => (⟨h.1, h.2.out⟩ : e = .returned (.bool r) ∧ ∃ m, w' = W.drewN m)))
      cases p1 with
      | false =>
        go_quiet (first | (go_at_call 61; exact Calls.quiet_of (HQ.out _ _ _ H1.out)))
        go_wp2
        go_ret
        exact ⟨by rw [HCK.out]; first | rfl | simp, by repeat (first | exact HB.out | apply pw_below_drewN | apply below_drew1)⟩
      | true =>
        cases p2 with
        | false =>
          go_quiet (first | (go_at_call 61; exact Calls.quiet_of (HQ.out _ _ _ H1.out)) | (go_at_call 61; exact Calls.quiet_of (HQ.out _ _ _ H2.out)))
          go_wp2
          go_ret
          exact ⟨by rw [HCK.out]; first | rfl | simp, by repeat (first | exact HB.out | apply pw_below_drewN | apply below_drew1)⟩
        | true =>
          cases p3 with
          | false =>
            go_quiet (first | (go_at_call 61; exact Calls.quiet_of (HQ.out _ _ _ H1.out)) | (go_at_call 61; exact Calls.quiet_of (HQ.out _ _ _ H2.out)) | (go_at_call 61; exact Calls.quiet_of (HQ.out _ _ _ H3.out)))
            go_wp2
            go_ret
            exact ⟨by rw [HCK.out]; first | rfl | simp, by repeat (first | exact HB.out | apply pw_below_drewN | apply below_drew1)⟩
          | true =>
            clear g0 g1 g2 HQ
            have g0 : ∀ W : World, Below wr.heap.size wr W → W.cell? ⟨w.heap.size, 0, none⟩ = some (.int .i64 b) := fun W hb => (blk_cell (blk_below HG.out hb) 0).trans rfl
            have g1 : ∀ W : World, Below wr.heap.size wr W → W.cell? ⟨w.heap.size, 1, none⟩ = some (.int .i64 m) := fun W hb => (blk_cell (blk_below HG.out hb) 1).trans rfl
            have g2 : ∀ W : World, Below wr.heap.size wr W → W.cell? ⟨w.heap.size, 2, none⟩ = some (.int .i64 cr) := fun W hb => (blk_cell (blk_below HG.out hb) 2).trans rfl
            have g3 : ∀ W : World, Below wr.heap.size wr W → W.cell? ⟨w.heap.size, 3, none⟩ = some (.slice A0 l0.length c0) := fun W hb => (blk_cell (blk_below HG.out hb) 3).trans rfl
            have HSM := Aside0.mk (sum_ev b m cr l0 HV.out (by have := HL.out; omega) (2 * l0.length + 2) (Nat.le_refl _))
            go_region_held (fun w' => Below wr.heap.size wr w') (first | assumption | exact below_step (by assumption) hb5 | (repeat (first | assumption | exact Below.refl _ _ | apply pw_below_drewN | apply below_drew1))) (first
              | (go_at_call 20; refine (ledger_Ledger_Sum.calls (2 * l0.length + 2) b m cr A0 c0 l0 _ _ (Kd.C_below HR0.out (below_step HB.out (by repeat (first | assumption | exact Below.refl _ _ | apply pw_below_drewN | apply below_drew1)))) HC0.out HSM.out).mono ?_; rintro e w5 ⟨rfl, hb5⟩)
              | (go_at_call 61; refine (ledger_power.calls b true _ H1.out).mono ?_; rintro e w' ⟨rfl, ⟨nd, rfl⟩⟩)
              | (go_at_call 61; refine (ledger_power.calls m true _ H2.out).mono ?_; rintro e w' ⟨rfl, ⟨nd, rfl⟩⟩)
              | (go_at_call 61; refine (ledger_power.calls cr true _ H3.out).mono ?_; rintro e w' ⟨rfl, ⟨nd, rfl⟩⟩))
            all_goals go_wp2
            all_goals go_ret
            all_goals exact ⟨by rw [HCK.out]; first | rfl | simp, below_step HB.out (by assumption)⟩
    | succ gko =>
      have hilt : i < l0.length := by have := HI.out; omega
      have hlt : decide ((i : Int) < (l0.length : Int)) = true := decide_eq_true (by omega)
      obtain ⟨ad1, e1, hx0, hx1⟩ := at_T51 HR0.out (i : Int) (by omega) (by omega)
      cases e1
      rw [Int.toNat_natCast] at hx0 hx1
      replace hx0 := (HB.out.cell (World.block_lt_of_cell? w _ hx0)).trans hx0
      replace hx1 := (HB.out.cell (World.block_lt_of_cell? w _ hx1)).trans hx1
      have hpv : (∀ q ∈ l0.take (i + 1), okP q) ↔ (∀ q ∈ l0.take i, okP q) ∧ okP (rd_T51 l0 (i : Int)) := by
        rw [List.take_add_one, List.getElem?_eq_getElem hilt, rd_T51_nat l0 i hilt]
        simp only [List.mem_append, Option.mem_toList, Option.mem_some_iff]
        constructor
        · intro h; exact ⟨fun q hq => h q (.inl hq), h _ (.inr rfl)⟩
        · rintro ⟨h1, h2⟩ q hq
          rcases hq with hq | hq
          · exact h1 q hq
          · first | (rw [← hq]; exact h2) | (rw [hq]; exact h2) | (subst hq; exact h2) | (have := Option.some.inj hq; first | (rw [← this]; exact h2) | (rw [this]; exact h2))
      have hno : rowB l0 i = false → chkB b m cr l0 = false := chkB_no b m cr l0 i hilt
      have hrb : rowsB l0 (i + 1) = (rowsB l0 i && rowB l0 i) := rowsB_succ l0 i
      have hrw : rowB l0 i = (!(decide (0 ≤ ixf (l0.take i) fun q => q.f0 == (rd_T51 l0 (i : Int)).f0)) && (knB (rd_T51 l0 (i : Int)).f0 && pwB (rd_T51 l0 (i : Int)).f1)) := rfl
      generalize rd_T51 l0 (i : Int) = p at hx0 hx1 hpv hrw
      have HPV := Aside0.mk hpv
      have HLT := Aside0.mk hilt
      have p1 : ((0 : Int) ≤ (i : Int)) = True := eq_true (by omega)
      have q1 : ((i : Int) < (l0.length : Int)) = True := eq_true (by omega)
      have g3 := fun o : Obj => (blk_cell (blk_alloc HG.out o) 3).trans (rfl : _ = some (Value.slice (some ad1) l0.length c0))
      have hcut := cut_to (P := Tryd.prog) 30 51 .i64 Tryd.underlying30 fit_i51.choose_spec (some ad1) l0.length c0 (i : Int) (by omega) (by omega) HC0.out
      rw [Int.toNat_natCast] at hcut
      obtain ⟨tw, htw⟩ : ∃ tw, tw = decide (0 ≤ ixf (l0.take i) fun q => q.f0 == p.f0) := ⟨_, rfl⟩
      have hcon : ∀ W : World, Below wr.heap.size wr W → W.cell? ⟨wr.heap.size, 0, none⟩ = some (.int .i64 p.f0) → Calls Tryd.prog 58 #[.slice (some ad1) i c0, .func (.func 59) #[] #[.pointer (some ⟨wr.heap.size, 0, none⟩)]] W fun e w' => e = .returned (.bool tw) ∧ Below W.heap.size W w' := fun W hb hc => by
        have hC := Kd.C_take (Kd.C_below HR0.out (below_step HB.out hb)) (Nat.le_of_lt HLT.out)
        have hlen : (l0.take i).length = i := by rw [List.length_take]; have := HLT.out; omega
        have h := contains.calls (some ad1) c0 (l0.take i) wr.heap.size p.f0 W hC (by rw [hlen]; have := HC0.out; have := HLT.out; omega) (by rw [hlen]; have := HL.out; have := HLT.out; omega) hc
        rw [← htw] at h
        rwa [hlen] at h
      have HCON := Aside0.mk hcon
      obtain ⟨kb, hkbe⟩ : ∃ k, k = knB p.f0 := ⟨_, rfl⟩
      obtain ⟨pb, hpbe⟩ : ∃ k, k = pwB p.f1 := ⟨_, rfl⟩
      have hkb := knB_ev p.f0
      have hpb := pwB_ev p.f1
      rw [← hkbe] at hkb
      rw [← hpbe] at hpb
      rw [← htw, ← hkbe, ← hpbe] at hrw
      rw [hrw] at hno hrb
      have HNO := Aside0.mk hno
      have HRB2 := Aside0.mk hrb
      clear hpv hilt hcon htw hkbe hpbe hno hrb hrw
      have HKB := Aside0.mk hkb
      have HPB := Aside0.mk hpb
      have HC1 := Aside0.mk (blk_cell (blk_new wr (.cells #[.int .i64 p.f0, .int .i64 p.f1] 51)) 0)
      clear hkb hpb
      cases tw with
      | true =>
        go_wp2_with (first
          | (go_at_call 58; refine (HCON.out _ (below_alloc (Below.refl _ _) _) HC1.out).mono ?_; rintro e w2 ⟨rfl, hb2⟩; have HB2 := Aside0.mk (below_step (below_alloc HB.out _) hb2); clear hb2))
        go_ret
        exact ⟨by rw [HNO.out (by first | rfl | simp)]; first | rfl | simp, HB2.out⟩
      | false =>
        cases kb with
        | false =>
          go_wp2_with (first
            | (go_at_call 58; refine (HCON.out _ (below_alloc (Below.refl _ _) _) HC1.out).mono ?_; rintro e w2 ⟨rfl, hb2⟩; have HB2 := Aside0.mk (below_step (below_alloc HB.out _) hb2); have HN2 := Aside0.mk (blk_below (blk_new wr _) hb2); clear hb2; have n0 := (blk_cell HN2.out 0).trans (rfl : _ = some (Value.int .i64 p.f0)); have n1 := (blk_cell HN2.out 1).trans (rfl : _ = some (Value.int .i64 p.f1)))
            | (go_at_call 60; refine (ledger_known.calls p.f0 false _ HKB.out).mono ?_; rintro e w' ⟨rfl, ⟨nd, rfl⟩⟩))
          go_ret
          exact ⟨by rw [HNO.out (by first | rfl | simp)]; first | rfl | simp, by repeat (first | exact HB2.out | apply pw_below_drewN | apply below_drew1)⟩
        | true =>
          cases pb with
          | false =>
            go_wp2_with (first
              | (go_at_call 58; refine (HCON.out _ (below_alloc (Below.refl _ _) _) HC1.out).mono ?_; rintro e w2 ⟨rfl, hb2⟩; have HB2 := Aside0.mk (below_step (below_alloc HB.out _) hb2); have HN2 := Aside0.mk (blk_below (blk_new wr _) hb2); clear hb2; have n0 := (blk_cell HN2.out 0).trans (rfl : _ = some (Value.int .i64 p.f0)); have n1 := (blk_cell HN2.out 1).trans (rfl : _ = some (Value.int .i64 p.f1)))
              | (go_at_call 60; refine (ledger_known.calls p.f0 true _ HKB.out).mono ?_; rintro e w' ⟨rfl, ⟨nd, rfl⟩⟩)
              | (go_at_call 61; refine (ledger_power.calls p.f1 false _ HPB.out).mono ?_; rintro e w' ⟨rfl, ⟨nd2, rfl⟩⟩))
            go_ret
            exact ⟨by rw [HNO.out (by first | rfl | simp)]; first | rfl | simp, by repeat (first | exact HB2.out | apply pw_below_drewN | apply below_drew1)⟩
          | true =>
            go_wp2_with (first
              | (go_at_call 58; refine (HCON.out _ (below_alloc (Below.refl _ _) _) HC1.out).mono ?_; rintro e w2 ⟨rfl, hb2⟩; have HB2 := Aside0.mk (below_step (below_alloc HB.out _) hb2); have HN2 := Aside0.mk (blk_below (blk_new wr _) hb2); have HG2 := Aside0.mk (blk_below (blk_alloc HG.out _) hb2); clear hb2; have n0 := (blk_cell HN2.out 0).trans (rfl : _ = some (Value.int .i64 p.f0)); have n1 := (blk_cell HN2.out 1).trans (rfl : _ = some (Value.int .i64 p.f1)))
              | (go_at_call 60; refine (ledger_known.calls p.f0 true _ HKB.out).mono ?_; rintro e w' ⟨rfl, ⟨nd, rfl⟩⟩)
              | (go_at_call 61; refine (ledger_power.calls p.f1 true _ HPB.out).mono ?_; rintro e w' ⟨rfl, ⟨nd2, rfl⟩⟩))
            go_roundg gko
            case measure => omega
            case rel => exact ⟨i + 1, by rw [wi i (by have := HL.out; have := HLT.out; omega)], ⟨by have := HI.out; omega⟩, ⟨HPV.out.2 ⟨HV.out, power_is _ HPB.out⟩⟩, ⟨by rw [HRB2.out, HRB.out]; rfl⟩, ⟨by repeat (first | exact HG2.out | apply blk_drewN | apply blk_drew)⟩, ⟨by repeat (first | exact HB2.out | apply pw_below_drewN | apply below_drew1)⟩⟩
end Go.Proofs.YtbcijmpkmmcdeaaDoor.PChk
end
section
namespace Go.Proofs.YtbcijmpkmmcdeaaDoor.PAll
open Go.RowKit Go.Proofs.YtbcijmpkmmcdeaaDoorW.PrintWords Go.Proofs.YtbcijmpkmmcdeaaDoorW.PrintLast Go.Proofs.YtbcijmpkmmcdeaaDoorW.PrintMore
attribute [local go_sem] max2_int min2_int max_two min_two max_three min_three max_four min_four
set_option linter.unusedVariables false
set_option linter.unusedSimpArgs false
def slices_Clone_byte_byte.f (l0 : List Int) : Option (List Int) := (some (([] : List Int) : List Int)).bind fun y105 => (if y105.length + l0.length < 140737488355328 then (some (y105 ++ l0)) else (none))
set_option maxHeartbeats 8000000 in
set_option maxRecDepth 100000 in
theorem slices_Clone_byte_byte.calls (A0 : Option Addr) (c0 : Nat) (l0 : List Int) (r : List Int) (w : World) (hr0 : Kd.C (Kd.int .u8) w A0 l0.length l0) (hc0 : l0.length ≤ c0) (h : slices_Clone_byte_byte.f l0 = some r) :
    Calls Tryd.prog 39 #[.slice A0 l0.length c0] w fun e w' => ∃ v0_ : Value, e = .returned (v0_) ∧ Kd.R (Kd.int .u8) 5 w' w.heap.size (fun _ => True) v0_ r ∧ Below w.heap.size w w' := by
  rcases A0 with _ | ad0
  · have hl0 : l0 = [] := by
      rcases Nat.eq_zero_or_pos l0.length with e0 | e0
      · exact List.eq_nil_of_length_eq_zero e0
      · obtain ⟨ad, he, _⟩ := hr0.2.2 e0; cases he
    subst hl0
    obtain rfl : r = [] := by simpa [slices_Clone_byte_byte.f] using h.symm
    have hq := Go.Lib.run_eql_slice_nil_nil (P := Tryd.prog) w (n := 0) (c := c0) Tryd.underlying22
    clear hr0 hc0 h
    go_enter Tryd.func39, Tryd.ntmps39
    go_wp2
    go_ret
    exact ⟨_, rfl, Kd.R_nil _ _ _ _ _, Below.refl _ _⟩
  have hq0 := fun W_ : World => Go.Lib.run_eql_slice_some_nil (P := Tryd.prog) W_ ad0 l0.length c0 Tryd.underlying22
  have HR0 := Aside0.mk hr0
  have HC0 := Aside0.mk hc0
  clear hr0 hc0
  have HB := Aside0.mk (Below.refl w.heap.size w)
  have H : ((some (([] : List Int) : List Int)).bind fun y105 => (if y105.length + l0.length < 140737488355328 then (some (y105 ++ l0)) else (none))) = some r := h
  clear h
  obtain ⟨y105, hy105⟩ : ∃ y_ : List Int, y_ = (([] : List Int)) := ⟨_, rfl⟩
  replace H : (if y105.length + l0.length < 140737488355328 then (some (y105 ++ l0)) else (none)) = some r := by first | (rw [hy105]; with_reducible exact H) | (have H2_ := (Option.bind_some _ _).symm.trans H; rw [hy105]; with_reducible exact H2_) | (have H2_ := (Option.bind_some _ _).symm.trans H; with_reducible exact H2_) | with_reducible exact H | (rw [hy105]; exact H) | exact H
  have Ny105 := Aside0.mk hy105
  clear hy105
  by_cases c2 : y105.length + l0.length < 140737488355328
  · rw [if_pos c2] at H
    have LMc2 := Aside0.mk c2
    clear c2
    obtain ⟨y108, hy108⟩ : ∃ y_ : List Int, y_ = (y105 ++ l0) := ⟨_, rfl⟩
    replace H : (some y108) = some r := by first | (rw [hy108]; with_reducible exact H) | (have H2_ := (Option.bind_some _ _).symm.trans H; rw [hy108]; with_reducible exact H2_) | (have H2_ := (Option.bind_some _ _).symm.trans H; with_reducible exact H2_) | with_reducible exact H | (rw [hy108]; exact H) | exact H
    have Ny108 := Aside0.mk hy108
    clear hy108
    obtain rfl := Option.some.inj H
    go_enter Tryd.func39, Tryd.ntmps39
    go_wp2_with (first | ((with_reducible refine gate_dst (N := 5) rfl ?_); refine Kd.R_lit (Kd.int .u8) _ 5 ?hg (N := 5) ?hd (xs := ([] : List Int)) (inner := []) (ok := fun _ => True) (okp := fun _ => True) ?hr ?hp (fun _ hk => hk) trivial (Below.refl _ _) (Nat.le_refl _) (by simp) ?_; (case hd => rfl); (case hg => rfl); (case hr => first | (go_simp; done) | (go_simp; rfl)); (case hp => exact (Reps.none _ _)); intro v106 w3 ho4 hb hg_ hnew_; clear hg_ hnew_; (first | rw [← Ny105.out] at ho4 | (simp only [Int.reduceToNat] at ho4; rw [← Ny105.out] at ho4)); have n0_ := Aside0.mk (Kd.R_lower ho4 (below_size (by repeat (first | (with_reducible first | exact HB.out | apply below_alloc | apply pw_below_drewN | apply below_drew1) | exact HB.out)))); have n1_ := Aside0.mk (below_step (by repeat (first | (with_reducible first | exact HB.out | apply below_alloc | apply pw_below_drewN | apply below_drew1) | exact HB.out)) hb); clear HB; have HO107 := n0_; have HB := n1_; clear n0_ n1_; clear hb ho4) | ((with_reducible refine gate_builtin (b := .append) (xs := #[.tmp 5, .tmp 6]) rfl ?_); at_builtin; refine Kd.R_append_rows (Kd.int .u8) (w0 := w) w.heap.size rfl (.tmp 5) (.tmp 6) 22 5 (.int .u8 0) 1 rfl Tryd.underlying22 info5 rfl (by decide) (by omega) v106 y105 l0 _ _ _ (fun _ => True) (fun _ => False) rfl rfl ?aO ?aR (fun _ _ h => h) (fun _ h => h.elim) ?aF ?aB ?aS ?aL ?_; (case aR => repeat (first | exact (Kd.C_below HR0.out HB.out) | (with_reducible refine Kd.C_alloc ?_ _) | (with_reducible refine Kd.C_drewN ?_ _) | (with_reducible refine Kd.C_drew ?_))); (case aB => exact (by repeat (first | (with_reducible first | exact HB.out | apply below_alloc | apply pw_below_drewN | apply below_drew1) | exact HB.out))); (case aF => exact (fun _ _ => trivial)); (case aO => exact (by (with_reducible repeat (first | apply Kd.R_alloc | apply Kd.R_drewN | apply Kd.R_drew)); exact HO107.out)); (case aS => exact (below_size (by repeat (first | (with_reducible first | exact HB.out | apply below_alloc | apply pw_below_drewN | apply below_drew1) | exact HB.out)))); (case aL => have := LMc2.out; omega); intro v109 w5 ho hb hg hat; rw [← Ny108.out] at ho; have n0_ := Aside0.mk (hb); have n1_ := Aside0.mk (ho); clear HB; clear HO107; have HB := n0_; have HO110 := n1_; clear n0_ n1_; clear ho hb hg hat))
    go_ret
    exact ⟨_, by first | rfl | (simp [errW_none, errW_some] <;> rfl) | (simp [*, errW_none, errW_some] <;> rfl), by (with_reducible repeat (first | apply Kd.R_alloc | apply Kd.R_drewN | apply Kd.R_drew)); exact HO110.out, by repeat (first | (with_reducible first | exact HB.out | apply below_alloc | apply pw_below_drewN | apply below_drew1) | exact HB.out)⟩
  · rw [if_neg c2] at H
    exact absurd H (by simp)
end Go.Proofs.YtbcijmpkmmcdeaaDoor.PAll
end
section
namespace Go.Proofs.YtbcijmpkmmcdeaaDoor.PAll
open Go.RowKit Go.Proofs.YtbcijmpkmmcdeaaDoorW.PrintWords Go.Proofs.YtbcijmpkmmcdeaaDoorW.PrintLast Go.Proofs.YtbcijmpkmmcdeaaDoorW.PrintMore
attribute [local go_sem] max2_int min2_int max_two min_two max_three min_three max_four min_four
set_option linter.unusedVariables false
set_option linter.unusedSimpArgs false
def halfL : List Int := [0, 498536548, 997073096, 651767980, 1994146192, 1802195444, 1303535960, 1342533948, 3988292384, 4027552580, 3604390888, 3412177804, 2607071920, 2262029012, 2685067896, 3183342108]
def Half (w : World) : Prop := ∀ i : Nat, i < 16 → w.cell? ⟨0, i, none⟩ = some (.int .u32 (halfL.getD i 0))
def halfI (i : Int) : Int := halfL.getD i.toNat 0
def crcNib (x : Int) : Int := Go.bits .xor .u32 (x / 16) (halfI (Go.bits .and .u32 x 15))
def crcByte (x c : Int) : Int := crcNib (crcNib (Go.bits .xor .u32 x (c % 4294967296)))
def crcRow (x : Int) (l : List Int) : Int := l.foldl crcByte x
def crcAll (x : Int) (rows : List (List Int)) : Int := rows.foldl crcRow x
theorem Half.at_ {w : World} (h : Half w) (x : Int) : 0 ≤ Go.bits .and .u32 x 15 ∧ Go.bits .and .u32 x 15 < 16 ∧ w.cell? ⟨0, (Go.bits .and .u32 x 15).toNat, none⟩ = some (.int .u32 (halfI (Go.bits .and .u32 x 15))) := by
  have hb : 0 ≤ Go.bits .and .u32 x 15 ∧ Go.bits .and .u32 x 15 < 16 := by
    have e : (BitVec.ofInt 32 x &&& BitVec.ofInt 32 15).toNat ≤ 15 := by
      rw [BitVec.toNat_and]
      exact Nat.le_trans Nat.and_le_right (by decide)
    have e2 : Go.bits .and .u32 x 15 = IntKind.u32.wrap ((BitVec.ofInt 32 x &&& BitVec.ofInt 32 15).toNat : Int) := rfl
    rw [e2, IntKind.wrap_u32]
    omega
  exact ⟨hb.1, hb.2, h _ (by omega)⟩
theorem Half.keep {w w' : World} (h : Half w) (hb : Below w.heap.size w w') : Half w' := fun i hi =>
  (hb.cell (World.block_lt_of_cell? w _ (h i hi))).trans (h i hi)
def rdR (xs : List (List Int)) (i : Int) : (List Int) := xs.getD i.toNat ([] : List Int)
theorem atR {w : World} {A : Option Addr} {n : Nat} {xs : List (List Int)} (h : Kd.C (Kd.slice 5 (Kd.int .u8)) w A n xs) (i : Int) (h0 : 0 ≤ i) (h1 : i < n) : ∃ ad A0 c0, A = some ad ∧ w.cell? (ad.add i.toNat) = some (.slice A0 (rdR xs i).length c0) ∧ (rdR xs i).length ≤ c0 ∧ (Kd.int .u8).C w A0 (rdR xs i).length (rdR xs i) := by
  obtain ⟨ad, c, e, _, hK, hc0⟩ := Kd.C_get h ([] : List Int) i h0 h1
  have hc : ∀ j u, c[j]? = some u → w.cell? (ad.add (i.toNat * 1 + j)) = some u := hc0
  obtain ⟨A0, c0, rfl, l0, g0⟩ := hK
  exact ⟨ad, A0, c0, e, by have hq := hc 0 _ rfl; rwa [Nat.mul_one, Nat.add_zero] at hq, l0, g0⟩
theorem crc_wrap (n : Nat) (h : n ≤ 1099511627776) : wrap64 ((n : Int) + 1) = ((n + 1 : Nat) : Int) := by unfold wrap64; omega
theorem crcRow_snoc (x : Int) (l : List Int) (j : Nat) (h : j < l.length) : crcRow x (l.take (j + 1)) = crcByte (crcRow x (l.take j)) (rd l (j : Int)) := by
  unfold crcRow rd
  rw [List.take_add_one, List.getElem?_eq_getElem h, Int.toNat_natCast, List.getD_eq_getElem?_getD, List.getElem?_eq_getElem h, List.foldl_append]
  rfl
theorem crcAll_snoc (x : Int) (l : List (List Int)) (j : Nat) (h : j < l.length) : crcAll x (l.take (j + 1)) = crcRow (crcAll x (l.take j)) (rdR l (j : Int)) := by
  unfold crcAll rdR
  rw [List.take_add_one, List.getElem?_eq_getElem h, Int.toNat_natCast, List.getD_eq_getElem?_getD, List.getElem?_eq_getElem h, List.foldl_append]
  rfl
set_option maxRecDepth 100000 in
set_option maxHeartbeats 4000000 in
theorem crc_Of.calls_ (A0 : Option Addr) (c0 : Nat) (l0 : List (List Int)) (w : World) (hr0 : Kd.C (Kd.slice 5 (Kd.int .u8)) w A0 l0.length l0) (hc0 : l0.length ≤ c0) (hl_ : Half w) (hM : l0.length ≤ 1099511627776 ∧ ∀ r ∈ l0, r.length ≤ 1099511627776) :
    Calls Tryd.prog 70 #[.slice A0 l0.length c0] w fun e w' => e = .returned (.int .u32 (Go.bits .xor .u32 4294967295 (crcAll 4294967295 l0))) ∧ Drawn0 w w' := by
  have HR0 := Aside0.mk hr0
  have HL := Aside0.mk hl_
  have HMX := Aside0.mk hM
  clear hr0 hl_ hM
  go_enter Tryd.func70, Tryd.ntmps70
  go_wp2
  go_loopg [3, 10] l0.length (fun g v3 v10 w' => ∃ i : Nat, v10 = .int .i64 i ∧ v3 = .int .u32 (crcAll 4294967295 (l0.take i)) ∧ Aside0 (g + i = l0.length) ∧ Drawn0 w w')
  case atStart => exact ⟨0, rfl, by simp [crcAll], ⟨by omega⟩, by repeat (first | exact Drawn0.refl _ | apply Drawn0.step)⟩
  case round =>
    obtain ⟨i, rfl, rfl, HI, ⟨m1, rfl⟩⟩ := hrel
    cases gk with
    | zero =>
      have hlt : decide ((i : Int) < (l0.length : Int)) = false := decide_eq_false (by have := HI.out; omega)
      have hi : i = l0.length := by have := HI.out; omega
      subst hi
      go_wp2
      go_ret
      exact ⟨rfl, by repeat (first | exact Drawn0.refl _ | apply Drawn0.step)⟩
    | succ gko =>
      have hilt : i < l0.length := by have := HI.out; omega
      have hlt : decide ((i : Int) < (l0.length : Int)) = true := decide_eq_true (by omega)
      have p1 : (0 : Int) ≤ (i : Int) := by omega
      have q1 : (i : Int) < (l0.length : Int) := by omega
      obtain ⟨ad1, A1, c1, e1, hx1, hl1, hi1⟩ := atR HR0.out (i : Int) p1 q1
      cases e1
      rw [Int.toNat_natCast] at hx1
      have HR1 := Aside0.mk hi1
      have HC1 := Aside0.mk hl1
      have HLT := Aside0.mk hilt
      have HM1 := Aside0.mk (show (rdR l0 (i : Int)).length ≤ 1099511627776 by unfold rdR; rw [Int.toNat_natCast, List.getD_eq_getElem?_getD, List.getElem?_eq_getElem hilt, Option.getD_some]; exact HMX.out.2 _ (List.getElem_mem hilt))
      clear hi1 hl1 hilt
      replace p1 := eq_true p1
      replace q1 := eq_true q1
      go_wp2
      go_loopg [3, 16] (rdR l0 (i : Int)).length (fun g v3 v16 w' => ∃ j : Nat, v16 = .int .i64 j ∧ v3 = .int .u32 (crcRow (crcAll 4294967295 (l0.take i)) ((rdR l0 (i : Int)).take j)) ∧ Aside0 (g + j = (rdR l0 (i : Int)).length) ∧ Drawn0 w w')
      case atStart => exact ⟨0, rfl, by simp [crcRow], ⟨by omega⟩, by repeat (first | exact Drawn0.refl _ | apply Drawn0.step)⟩
      case round =>
        clear hlt
        obtain ⟨j, rfl, rfl, HJ, ⟨m2, rfl⟩⟩ := hrel
        cases gk with
        | zero =>
          have hlt2 : decide ((j : Int) < ((rdR l0 (i : Int)).length : Int)) = false := decide_eq_false (by have := HJ.out; omega)
          have hj : j = (rdR l0 (i : Int)).length := by have := HJ.out; omega
          subst hj
          go_wp2
          go_roundg gko
          case measure => omega
          case rel => exact ⟨i + 1, by rw [crc_wrap i (by have := HMX.out.1; have := HLT.out; omega)], by rw [crcAll_snoc _ _ _ HLT.out, List.take_length], ⟨by have := HI.out; omega⟩, by repeat (first | exact Drawn0.refl _ | apply Drawn0.step)⟩
        | succ gk2 =>
          have hjlt : j < (rdR l0 (i : Int)).length := by have := HJ.out; omega
          have hlt2 : decide ((j : Int) < ((rdR l0 (i : Int)).length : Int)) = true := decide_eq_true (by omega)
          have p2 : (0 : Int) ≤ (j : Int) := by omega
          have q2 : (j : Int) < ((rdR l0 (i : Int)).length : Int) := by omega
          obtain ⟨ad2, e2, hx2⟩ := Kd.at_int HR1.out (j : Int) p2 q2
          cases e2
          rw [Int.toNat_natCast] at hx2
          have hs := crcRow_snoc (crcAll 4294967295 (l0.take i)) (rdR l0 (i : Int)) j hjlt
          have HS := Aside0.mk hs
          clear hs
          generalize crcRow (crcAll 4294967295 (l0.take i)) ((rdR l0 (i : Int)).take j) = X at HS ⊢
          have HJL := Aside0.mk hjlt
          clear hjlt
          obtain ⟨pa, qa, ha⟩ := HL.out.at_ (Go.bits .xor .u32 X (rd (rdR l0 (i : Int)) (j : Int) % 4294967296))
          obtain ⟨pb, qb, hb⟩ := HL.out.at_ (crcNib (Go.bits .xor .u32 X (rd (rdR l0 (i : Int)) (j : Int) % 4294967296)))
          simp only [crcNib] at pb qb hb
          replace p2 := eq_true p2
          replace q2 := eq_true q2
          go_wp2
          go_roundg gk2
          case measure => omega
          case rel => exact ⟨j + 1, by rw [crc_wrap j (by have := HJL.out; have := HM1.out; omega)], by rw [HS.out]; rfl, ⟨by have := HJ.out; omega⟩, by repeat (first | exact Drawn0.refl _ | apply Drawn0.step)⟩
def crc_Of.f (l0 : List (List Int)) : Option Int := if l0.length ≤ 1099511627776 ∧ ∀ r ∈ l0, r.length ≤ 1099511627776 then some (Go.bits .xor .u32 4294967295 (crcAll 4294967295 l0)) else none
theorem crc_Of.calls (A0 : Option Addr) (c0 : Nat) (l0 : List (List Int)) (r : Int) (w : World) (hr0 : Kd.C (Kd.slice 5 (Kd.int .u8)) w A0 l0.length l0) (hc0 : l0.length ≤ c0) (h : crc_Of.f l0 = some r) (hl_ : Half w) :
    Calls Tryd.prog 70 #[.slice A0 l0.length c0] w fun e w' => e = .returned (.int .u32 r) ∧ Drawn0 w w' := by
  unfold crc_Of.f at h
  by_cases hM : l0.length ≤ 1099511627776 ∧ ∀ r ∈ l0, r.length ≤ 1099511627776
  · rw [if_pos hM] at h
    obtain rfl := Option.some.inj h
    exact crc_Of.calls_ A0 c0 l0 w hr0 hc0 hl_ hM
  · rw [if_neg hM] at h
    cases h
end Go.Proofs.YtbcijmpkmmcdeaaDoor.PAll
end
section
namespace Go.Proofs.YtbcijmpkmmcdeaaDoor.PAll
open Go.RowKit Go.Proofs.YtbcijmpkmmcdeaaDoorW.PrintWords Go.Proofs.YtbcijmpkmmcdeaaDoorW.PrintLast Go.Proofs.YtbcijmpkmmcdeaaDoorW.PrintMore
attribute [local go_sem] max2_int min2_int max_two min_two max_three min_three max_four min_four
set_option linter.unusedVariables false
set_option linter.unusedSimpArgs false
mutual
def octet_Put.l0 : Nat → Int → List Int → List Int → Int → Int → Option (List Int)
  | 0, _, _, _, _, _ => none
  | k + 1, x0, x5, x12, x13, x14 => if x14 < x13 then (if 0 ≤ x14 then (if x14 < (x12.length : Int) then (octet_Put.l1 k x0 x5 (rd x12 x14) x12 x13 x14 x0 0) else (none)) else (none)) else (some x5)
def octet_Put.l1 : Nat → Int → List Int → Int → List Int → Int → Int → Int → Int → Option (List Int)
  | 0, _, _, _, _, _, _, _, _ => none
  | k + 1, x0, x5, x7, x12, x13, x14, x18, x19 => if x19 < x18 then (if 0 ≤ (wrap64 (8 * x19)) then (if x5.length < 140737488355328 then (octet_Put.l1 k x0 (x5 ++ [(shr .u64 x7 (wrap64 (8 * x19))) % 256]) x7 x12 x13 x14 x18 (wrap64 (x19 + 1))) else (none)) else (none)) else (octet_Put.l0 k x0 x5 x12 x13 (wrap64 (x14 + 1)))
end
def octet_Put.f (k : Nat) (a0 : Int) (l1 : List Int) : Option (List Int) := (octet_may.f a0).bind fun t129 => (if t129 = true then (octet_Put.l0 k a0 ([] : List Int) l1 (l1.length : Int) 0) else (some ([] : List Int)))
set_option maxHeartbeats 8000000 in
set_option maxRecDepth 100000 in
theorem octet_Put.calls (k : Nat) (a0 : Int) (A1 : Option Addr) (c1 : Nat) (l1 : List Int) (r : List Int) (w : World) (hr1 : Kd.C (Kd.int .u64) w A1 l1.length l1) (hc1 : l1.length ≤ c1) (h : octet_Put.f k a0 l1 = some r) :
    Calls Tryd.prog 51 #[.int .i64 a0, .slice A1 l1.length c1] w fun e w' => ∃ v0_ : Value, e = .returned (v0_) ∧ Kd.R (Kd.int .u8) 5 w' w.heap.size (fun _ => True) v0_ r ∧ Below w.heap.size w w' := by
  have HR1 := Aside0.mk hr1
  have HC1 := Aside0.mk hc1
  clear hr1 hc1
  have HB := Aside0.mk (Below.refl w.heap.size w)
  have H : ((octet_may.f a0).bind fun t129 => (if t129 = true then (octet_Put.l0 k a0 ([] : List Int) l1 (l1.length : Int) 0) else (some ([] : List Int)))) = some r := h
  clear h
  replace H := Option.bind_eq_some_iff.mp H
  obtain ⟨t129, A30, H⟩ := H
  replace H : (if t129 = true then (octet_Put.l0 k a0 ([] : List Int) l1 (l1.length : Int) 0) else (some ([] : List Int))) = some r := H
  have A3 := Aside0.mk A30
  clear A30
  by_cases c4 : t129 = true
  · subst c4
    have H1 : (octet_Put.l0 k a0 ([] : List Int) l1 (l1.length : Int) 0) = some r := by rw [if_pos rfl] at H; exact H
    clear H
    have H := H1
    clear H1
    have H' := Aside0.mk H
    clear H
    go_enter Tryd.func51, Tryd.ntmps51
    go_wp2_with (first | ((with_reducible refine gate_callee (f := 65) rfl ?_); refine goesL_ (some 10) rfl rfl Tryd.func65 (by kernel_rfl) rfl #[.int .i64 a0] rfl (by (try simp only [List.map_toArray, List.map_cons, List.map_nil]); first | done | rfl | (simp only [List.length_drop, List.length_take]; rfl)) ?_; (with_reducible refine (octet_may.calls a0 true _ A3.out).mono ?_); rintro e w' ⟨rfl, ⟨nd, rfl⟩⟩; refine ⟨_, rfl, ?_⟩))
    go_loopg [5, 14] k (fun kq v5 v14 w' => ∃ (x5_1 : List Int) (x14_1 : Int), v14 = .int .i64 x14_1 ∧ Aside0 (octet_Put.l0 kq a0 x5_1 l1 (l1.length : Int) x14_1 = some r) ∧ Aside0 (kq ≤ k) ∧ Aside0 (Kd.R (Kd.int .u8) 5 w' w.heap.size (fun _ => True) v5 x5_1) ∧ Aside0 (Below w.heap.size w w'))
    case atStart => exact ⟨(([] : List Int)), (0), (by first | rfl | (simp; done) | (simp [*]; done)), H', ⟨Nat.le_refl _⟩, ⟨by first | exact Kd.R_nil _ _ _ _ _ | exact Kd.N_nil _ _ _ _ _ | exact Kd.V_nil _ _ _ _ _ | exact Kd.Q_nil _ _ _ _ _ | exact Kd.S_nil _ _ _ _ _⟩, ⟨by repeat (first | (with_reducible first | exact HB.out | apply below_alloc | apply pw_below_drewN | apply below_drew1) | exact HB.out)⟩⟩
    case round =>
      clear H'
      try clear c1
      try clear p2
      try clear c4
      obtain ⟨x5_1, x14_1, rfl, HA, HK1, HO_5, HB⟩ := hrel
      cases gk with
      | zero => exact absurd HA.out (by simp [octet_Put.l0])
      | succ k1 =>
        have H := HA.out
        clear HA
        simp only [octet_Put.l0] at H
        by_cases c5 : x14_1 < (l1.length : Int)
        · rw [if_pos c5] at H
          have c5b0 : decide (x14_1 < (l1.length : Int)) = true := decide_eq_true c5
          clear c5
          by_cases c6 : 0 ≤ x14_1
          · rw [if_pos c6] at H
            have c6b0 : decide (0 ≤ x14_1) = true := decide_eq_true c6
            clear c6
            by_cases c7 : x14_1 < (l1.length : Int)
            · rw [if_pos c7] at H
              have c7b0 : decide (x14_1 < (l1.length : Int)) = true := decide_eq_true c7
              clear c7
              have H' := Aside0.mk H
              clear H
              have p130 : 0 ≤ (x14_1 : Int) := of_decide_eq_true (by first | (with_reducible assumption) | assumption)
              have q130 : x14_1 < (l1.length : Int) := of_decide_eq_true (by first | (with_reducible assumption) | assumption)
              obtain ⟨ad130, e130, hx130_0⟩ := Kd.at_int HR1.out x14_1 p130 q130
              cases e130
              replace hx130_0 := (HB.out.cell (World.block_lt_of_cell? w _ hx130_0)).trans hx130_0
              replace p130 := eq_true p130
              replace q130 := eq_true q130
              go_wp2
              go_loopg [5, 19] k1 (fun kq v5 v19 w' => ∃ (x5_2 : List Int) (x19_2 : Int), v19 = .int .i64 x19_2 ∧ Aside0 (octet_Put.l1 kq a0 x5_2 (rd l1 x14_1) l1 (l1.length : Int) x14_1 a0 x19_2 = some r) ∧ Aside0 (kq ≤ k1) ∧ Aside0 (Kd.R (Kd.int .u8) 5 w' w.heap.size (fun _ => True) v5 x5_2) ∧ Aside0 (Below w.heap.size w w'))
              case atStart => exact ⟨(x5_1), (0), (by first | rfl | (simp; done) | (simp [*]; done)), H', ⟨Nat.le_refl _⟩, ⟨by (with_reducible repeat (first | apply Kd.R_alloc | apply Kd.R_drewN | apply Kd.R_drew)); exact HO_5.out⟩, ⟨by repeat (first | (with_reducible first | exact HB.out | apply below_alloc | apply pw_below_drewN | apply below_drew1) | exact HB.out)⟩⟩
              case round =>
                clear H'
                try clear c1
                try clear p1
                try clear q1
                try clear hx1
                try clear p2
                try clear c4
                try clear c5
                try clear c5b0
                try clear c6
                try clear c6b0
                try clear c7
                try clear c7b0
                try clear hx130_0
                try clear p130
                try clear p2
                try clear q130
                obtain ⟨x5_2, x19_2, rfl, HA, HK2, HO_5, HB⟩ := hrel
                cases gk with
                | zero => exact absurd HA.out (by simp [octet_Put.l1])
                | succ k2 =>
                  have H := HA.out
                  clear HA
                  simp only [octet_Put.l1] at H
                  by_cases c8 : x19_2 < a0
                  · rw [if_pos c8] at H
                    have c8b0 : decide (x19_2 < a0) = true := decide_eq_true c8
                    clear c8
                    obtain ⟨ji9, hji9⟩ : ∃ j_ : Int, (wrap64 (8 * x19_2)) = j_ := ⟨_, rfl⟩
                    replace H : (if 0 ≤ (ji9) then (if x5_2.length < 140737488355328 then (octet_Put.l1 k2 a0 (x5_2 ++ [(shr .u64 (rd l1 x14_1) (ji9)) % 256]) (rd l1 x14_1) l1 (l1.length : Int) x14_1 a0 (wrap64 (x19_2 + 1))) else (none)) else (none)) = some r := by first | (rw [hji9] at H; exact H) | (simp only [hji9] at H ⊢; exact H)
                    have hji9w : (IntKind.i64.wrap (8 * x19_2)) = ji9 := (i64_w _).trans hji9
                    by_cases c10 : 0 ≤ (ji9)
                    · rw [if_pos c10] at H
                      have c10b0 := eq_true c10
                      have c10b1 : decide (0 ≤ (ji9)) = true := decide_eq_true c10
                      clear c10
                      obtain ⟨ji11, hji11⟩ : ∃ j_ : Int, (shr .u64 (rd l1 x14_1) (ji9)) = j_ := ⟨_, rfl⟩
                      replace H : (if x5_2.length < 140737488355328 then (octet_Put.l1 k2 a0 (x5_2 ++ [(ji11) % 256]) (rd l1 x14_1) l1 (l1.length : Int) x14_1 a0 (wrap64 (x19_2 + 1))) else (none)) = some r := by first | (rw [hji11] at H; exact H) | (simp only [hji11] at H ⊢; exact H)
                      have hji11_ : ((rd l1 x14_1) / 2 ^ min (ji9).toNat 64) = ji11 := hji11
                      have hji11z : (ji9) ≤ 64 → ((rd l1 x14_1) / 2 ^ (ji9).toNat) = ji11 := shr_small hji11
                      by_cases c12 : x5_2.length < 140737488355328
                      · rw [if_pos c12] at H
                        have LMc12 := Aside0.mk c12
                        clear c12
                        obtain ⟨y131, hy131⟩ : ∃ y_ : List Int, y_ = (x5_2 ++ [(ji11) % 256]) := ⟨_, rfl⟩
                        replace H : (octet_Put.l1 k2 a0 y131 (rd l1 x14_1) l1 (l1.length : Int) x14_1 a0 (wrap64 (x19_2 + 1))) = some r := by first | (rw [hy131]; with_reducible exact H) | (have H2_ := (Option.bind_some _ _).symm.trans H; rw [hy131]; with_reducible exact H2_) | (have H2_ := (Option.bind_some _ _).symm.trans H; with_reducible exact H2_) | with_reducible exact H | (rw [hy131]; exact H) | exact H
                        have Ny131 := Aside0.mk hy131
                        clear hy131
                        have H' := Aside0.mk H
                        clear H
                        go_wp2_with (first | ((with_reducible refine gate_builtin (b := .append) (xs := #[.tmp 22, .tmp 28]) rfl ?_); at_builtin; refine Kd.R_append (Kd.int .u8) (w0 := w) w.heap.size rfl (.tmp 22) (.tmp 28) 22 5 (.int .u8 0) 1 rfl Tryd.underlying22 info5 rfl (by decide) (by omega) u5 x5_2 ((ji11) % 256) [.int .u8 ((ji11) % 256)] (fun _ => True) (fun _ => False) rfl rfl ?aP (fun _ hk => hk.elim) ?aF ?aO ?aB ?aS ?aL ?_; (case aP => exact rfl); (case aB => exact (by repeat (first | (with_reducible first | exact HB.out | apply below_alloc | apply pw_below_drewN | apply below_drew1) | exact HB.out))); (case aF => exact (fun _ _ => trivial)); (case aO => exact (by (with_reducible repeat (first | apply Kd.R_alloc | apply Kd.R_drewN | apply Kd.R_drew)); exact HO_5.out)); (case aS => exact (below_size (by repeat (first | (with_reducible first | exact HB.out | apply below_alloc | apply pw_below_drewN | apply below_drew1) | exact HB.out)))); (case aL => have := LMc12.out; omega); intro v132 w13 ho hb hg hat; rw [← Ny131.out] at ho; have n0_ := Aside0.mk (hb); have n1_ := Aside0.mk (ho); clear HB; clear HO_5; have HB := n0_; have HO133 := n1_; clear n0_ n1_; clear ho hb hg hat))
                        go_roundg k2
                        case measure => have := HK1.out; have := HK2.out; omega
                        case rel => exact ⟨(y131), (wrap64 (x19_2 + 1)), (by first | rfl | (simp; done) | (simp [*]; done)), H', ⟨by have := HK1.out; have := HK2.out; omega⟩, ⟨by (with_reducible repeat (first | apply Kd.R_alloc | apply Kd.R_drewN | apply Kd.R_drew)); exact HO133.out⟩, ⟨by repeat (first | (with_reducible first | exact HB.out | apply below_alloc | apply pw_below_drewN | apply below_drew1) | exact HB.out)⟩⟩
                      · rw [if_neg c12] at H
                        exact absurd H (by simp)
                    · rw [if_neg c10] at H
                      exact absurd H (by simp)
                  · rw [if_neg c8] at H
                    have c8b0 : decide (x19_2 < a0) = false := decide_eq_false c8
                    clear c8
                    have H' := Aside0.mk H
                    clear H
                    go_wp2
                    go_roundg k2
                    case measure => have := HK1.out; have := HK2.out; omega
                    case rel => exact ⟨(x5_2), (wrap64 (x14_1 + 1)), (by first | rfl | (simp; done) | (simp [*]; done)), H', ⟨by have := HK1.out; have := HK2.out; omega⟩, ⟨by (with_reducible repeat (first | apply Kd.R_alloc | apply Kd.R_drewN | apply Kd.R_drew)); exact HO_5.out⟩, ⟨by repeat (first | (with_reducible first | exact HB.out | apply below_alloc | apply pw_below_drewN | apply below_drew1) | exact HB.out)⟩⟩
            · rw [if_neg c7] at H
              exact absurd H (by simp)
          · rw [if_neg c6] at H
            exact absurd H (by simp)
        · rw [if_neg c5] at H
          have c5b0 : decide (x14_1 < (l1.length : Int)) = false := decide_eq_false c5
          clear c5
          obtain rfl := Option.some.inj H
          go_wp2
          go_ret
          exact ⟨_, by first | rfl | (simp [errW_none, errW_some] <;> rfl) | (simp [*, errW_none, errW_some] <;> rfl), by (with_reducible repeat (first | apply Kd.R_alloc | apply Kd.R_drewN | apply Kd.R_drew)); exact HO_5.out, by repeat (first | (with_reducible first | exact HB.out | apply below_alloc | apply pw_below_drewN | apply below_drew1) | exact HB.out)⟩
  · replace c4 := Bool.eq_false_iff.mpr c4
    subst c4
    have H1 : (some ([] : List Int)) = some r := by rw [if_neg (show ¬ (false = true) by decide)] at H; exact H
    clear H
    have H := H1
    clear H1
    obtain rfl := Option.some.inj H
    go_enter Tryd.func51, Tryd.ntmps51
    go_wp2_with (first | ((with_reducible refine gate_callee (f := 65) rfl ?_); refine goesL_ (some 10) rfl rfl Tryd.func65 (by kernel_rfl) rfl #[.int .i64 a0] rfl (by (try simp only [List.map_toArray, List.map_cons, List.map_nil]); first | done | rfl | (simp only [List.length_drop, List.length_take]; rfl)) ?_; (with_reducible refine (octet_may.calls a0 false _ A3.out).mono ?_); rintro e w' ⟨rfl, ⟨nd, rfl⟩⟩; refine ⟨_, rfl, ?_⟩))
    go_ret
    exact ⟨_, by first | rfl | (simp [errW_none, errW_some] <;> rfl) | (simp [*, errW_none, errW_some] <;> rfl), by first | exact Kd.R_nil _ _ _ _ _ | exact Kd.N_nil _ _ _ _ _ | exact Kd.V_nil _ _ _ _ _ | exact Kd.Q_nil _ _ _ _ _ | exact Kd.S_nil _ _ _ _ _, by repeat (first | (with_reducible first | exact HB.out | apply below_alloc | apply pw_below_drewN | apply below_drew1) | exact HB.out)⟩
end Go.Proofs.YtbcijmpkmmcdeaaDoor.PAll
end
