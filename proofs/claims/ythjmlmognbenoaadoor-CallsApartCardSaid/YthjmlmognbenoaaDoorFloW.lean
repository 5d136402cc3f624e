/- The walks of floors and of its iterator, by hand (no statement stands here). -/
import Derived.Test.YthjmlmognbenoaaDoorTurns
import Derived.Test.YthjmlmognbenoaaDoorFlo
namespace Go.Proofs.YthjmlmognbenoaaDoor.PAll
open Go.RowKit Go.Shelf Go.Proofs.YthjmlmognbenoaaDoorW.PrintWords Go.Proofs.YthjmlmognbenoaaDoorW.PrintLast Go.Proofs.YthjmlmognbenoaaDoorW.PrintMore
set_option linter.unusedVariables false
set_option linter.unusedSimpArgs false
attribute [local go_sem] Oper.semAt_some
/-- What a round keeps: what lay below n₀, and the captured box. -/
def FlK (n₀ B : Nat) (W W' : World) : Prop := Below n₀ W W' ∧ W'.heap[B]? = W.heap[B]?
theorem FlK.t {n₀ B : Nat} {X Y Z : World} (h : FlK n₀ B X Y) (k : FlK n₀ B Y Z) : FlK n₀ B X Z := ⟨h.1.trans k.1, k.2.trans h.2⟩
theorem FlK.b {n₀ B : Nat} {w : World} (hn : n₀ ≤ w.heap.size) (hs : B < w.heap.size) (W : World) (l : Nat) (o o' : Obj) (hl : w.heap.size ≤ l) (h : W.heap[l]? = some o) (hc : o.isCells = false) (hw : o.isWalk = false) : FlK n₀ B W (W.putObj l o') :=
  ⟨belowK_b hn W l o o' hl h hc hw, World.putObj_heap_other (by omega)⟩
theorem Deb.below {n₀ : Nat} {W W' : World} (h : Deb W) (h0 : 0 < n₀) (hb : Below n₀ W W') : Deb W' := fun i hi => (hb.cell (p := ⟨0, i, none⟩) h0).trans (h i hi)
def cellN (W : World) (B : Nat) : Nat := match W.cell? ⟨B, 0, none⟩ with | some (.int _ i) => i.toNat | _ => 0
theorem cellN_of {W : World} {B : Nat} {t : TypeId} {m : Nat} (h : Boxed W B t (.int .u32 (m : Int))) : cellN W B = m := by unfold cellN; rw [h.cell]; simp
theorem off_lt (m : Nat) (h : 0 < m) : m &&& (m - 1) < m := Nat.lt_of_le_of_lt Nat.and_le_right (by omega)
set_option maxRecDepth 100000 in
set_option maxHeartbeats 2000000 in
theorem floors1_in (n : Nat) (hn : 1 ≤ n) (l B n₀ x0 : Nat) (hx : x0 < 4294967296) (hn0 : 0 < n₀) (hnB : n₀ ≤ B) (J Jx : List (Fin 32) → World → Prop)
    (hJd : ∀ pre W q, J pre W → J pre (World.drewN W q)) (hJB : ∀ pre X v, J pre X → J pre (X.setCell ⟨B, 0, none⟩ v))
    (hY : ∀ pre (x : Fin 32) W, J pre W → YieldAt Fence.wide (n - 1) Tryd.prog l #[.int .i64 (x.val : Int)] W fun e W' =>
      (e = .returned (.bool true) ∧ J (pre ++ [x]) W' ∧ FlK n₀ B W W') ∨ (e = .returned (.bool false) ∧ Jx (pre ++ [x]) W'))
    (W : World) (hD : Deb W) (hBx : Boxed W B 23 (.int .u32 (x0 : Int))) (h0 : J [] W) :
    CallsIn Fence.wide n Tryd.prog 26 #[.func (.yield l) #[] #[], .pointer (some ⟨B, 0, none⟩)] W fun e W' => (∃ v, e = .returned v) ∧
      ((∃ xs : List (Fin 32), xs.map (·.val) = floL x0 ∧ J xs W') ∨ (∃ (pre : List (Fin 32)) (rest : List Nat), pre ≠ [] ∧ floL x0 = pre.map (·.val) ++ rest ∧ Jx pre W')) := by
  refine callsIn_of_wp Tryd.func26 rfl trivial ?_ rfl
  simp only [Tryd.ntmps26, List.size_toArray, List.length_cons, List.length_nil, Nat.reduceAdd, Nat.reduceSub, Array.replicate_succ, Array.replicate_zero, List.push_toArray, List.append_toArray, List.nil_append, List.cons_append]
  gi_wp2
  gi_loopw [] (fun wr => ∃ (pre : List (Fin 32)) (m : Nat), Aside0 (pre.map (·.val) ++ floL m = floL x0) ∧ Aside0 (m < 4294967296) ∧ Boxed wr B 23 (.int .u32 (m : Int)) ∧ Aside0 (Deb wr) ∧ Aside0 (J pre wr))
    (fun wr => cellN wr B)
  case atStart => exact ⟨[], x0, ⟨rfl⟩, ⟨hx⟩, hBx, ⟨hD⟩, ⟨h0⟩⟩
  case round =>
    obtain ⟨pre, m, HP, HM, hbx, HD, HJ⟩ := hrel
    have hcs := hbx.cell
    have hfz := hbx.frozen
    by_cases hm : m = 0
    · subst hm
      gi_wp2
      go_end0
      exact ⟨⟨_, rfl⟩, .inl ⟨pre, by have := HP.out; rw [floL_zero, List.append_nil] at this; exact this, HJ.out⟩⟩
    · have hm0 : 0 < m := by omega
      have hne : ((m : Int) == 0) = false := by simp; omega
      have hne2 : ((m : Int) != 0) = true := by simp; omega
      have HM0 := Aside0.mk hm0
      clear hm hm0
      have HT := Aside0.mk (lowI_eq m HM0.out HM.out).2
      have HS := Aside0.mk (floL_step m HM0.out HM.out)
      have HO := Aside0.mk (bits_off m HM0.out HM.out)
      have hbo := HO.out
      have HHY := Aside0.mk hY
      clear hY hD hBx h0 hx
      gi_wp2_with (first | (refine ⟨trivial, ?_⟩; gi_at_call 27; refine (callsIn_wide.2 (tz_nat m HM0.out HM.out wr HD.out)).mono ?_; rintro e w1 ⟨rfl, ⟨nd, rfl⟩⟩; obtain ⟨fn, tmps, assign, body, hy, hR⟩ := HHY.out pre ⟨tzN 32 m, HT.out⟩ (wr.drewN nd) (hJd _ _ _ HJ.out)))
      refine hR.mono ?_
      rintro e W3 (⟨rfl, hJ3, hk3⟩ | ⟨rfl, hJx3⟩)
      · have hb3 : Boxed W3 B 23 (.int .u32 (m : Int)) := hk3.2.trans hbx
        have hD3 : Deb W3 := (HD.out.below hn0 (pw_below_drewN (Below.refl n₀ wr) nd)).below hn0 hk3.1
        have HB3 := Aside0.mk hb3
        have HD3 := Aside0.mk hD3
        have HJ3 := Aside0.mk hJ3
        have hcs3 := hb3.cell
        have hfz3 := hb3.frozen
        clear hk3 hb3 hD3 hJ3
        gi_wp2
        go_roundw
        case rel =>
          refine ⟨pre ++ [⟨tzN 32 m, HT.out⟩], m &&& (m - 1), ⟨?_⟩, ⟨floL_and m HM.out⟩, HB3.out.set _, ⟨HD3.out.below hn0 ((Below.refl n₀ W3).setCell (p := ⟨B, 0, none⟩) hnB _)⟩, ⟨hJB _ _ _ HJ3.out⟩⟩
          rw [List.map_append, ← HP.out, HS.out, List.append_assoc]
          rfl
        case measure =>
          rw [cellN_of (HB3.out.set _), cellN_of hbx]
          exact off_lt m HM0.out
      · gi_wp2
        refine bodyPost_ret (results_none rfl _ _ _) rfl ?_
        refine ⟨⟨_, rfl⟩, .inr ⟨_, floL (m &&& (m - 1)), by simp, ?_, hJx3⟩⟩
        rw [List.map_append, ← HP.out, HS.out, List.append_assoc]
        rfl
theorem grown_drewN (W : World) (q : Nat) : W.grownBy (W.drewN q) none := ⟨rfl, rfl, rfl, Nat.le_refl _, fun _ _ _ => rfl⟩
/-- The iterator's word. -/
theorem floors1_turns (n : Nat) (hn : 1 ≤ n) (B n₀ x0 : Nat) (hx : x0 < 4294967296) (hn0 : 0 < n₀) (hnB : n₀ ≤ B) (w : World) (hD : Deb w) (hBx : Boxed w B 23 (.int .u32 (x0 : Int))) :
    SeqTurns Fence.wide n Tryd.prog 26 #[.pointer (some ⟨B, 0, none⟩)] (fun x : Fin 32 => #[Value.int .i64 (x.val : Int)]) (FlK n₀ B) B (fun xs => xs.map (·.val) = floL x0) (fun pre => pre ≠ [] ∧ ∃ rest, floL x0 = pre.map (·.val) ++ rest) w :=
  fun l J Jx W hW hJ _ hJB hY h0 => by
    have h0w : 0 < w.heap.size := Nat.lt_of_le_of_lt (Nat.zero_le _) hBx.lt
    refine (floors1_in n hn l B n₀ x0 hx hn0 hnB J Jx (fun pre W1 q hj => hJ pre W1 _ none hj (grown_drewN W1 q) (fun r e => by cases e)) hJB hY W (hD.below h0w hW) ((hW.block B hBx.lt).trans hBx) h0).mono ?_
    rintro e W' ⟨he, ⟨xs, h1, h2⟩ | ⟨pre, rest, h1, h2, h3⟩⟩
    · exact ⟨he, .inl ⟨xs, h1, h2⟩⟩
    · exact ⟨he, .inr ⟨pre, ⟨h1, rest, h2⟩, h3⟩⟩
set_option maxRecDepth 100000 in
theorem floors_calls (x : Int) (w : World) :
    Calls Tryd.prog 24 #[.int .u32 x] w fun e w' => e = .returned (.func (.func 26) #[] #[.pointer (some ⟨w.heap.size, 0, none⟩)]) ∧ w' = w.alloc (.cells #[.int .u32 x] 23) := by
  go_enter Tryd.func24, Tryd.ntmps24
  go_wp2
  go_ret
  exact ⟨rfl, rfl⟩
end Go.Proofs.YthjmlmognbenoaaDoor.PAll
