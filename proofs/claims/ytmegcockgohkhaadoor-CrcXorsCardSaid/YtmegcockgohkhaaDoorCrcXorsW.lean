/- The walk of the law CrcXors, by hand (no statement stands here). -/
import Derived.Test.YtmegcockgohkhaaDoorCrcOfW
import Derived.Deep.LoopGhost
import Derived.Test.YtmegcockgohkhaaDoorInv
namespace Go.Proofs.YtmegcockgohkhaaDoor.PAll
open Go.RowKit Go.Proofs.YtmegcockgohkhaaDoorW.PrintWords Go.Proofs.YtmegcockgohkhaaDoorW.PrintLast Go.Proofs.YtmegcockgohkhaaDoorW.PrintMore
attribute [local go_sem] min_two
set_option linter.unusedVariables false
set_option linter.unusedSimpArgs false

theorem min_is {x y m : Int} (h : (if y < x then y else x) = m) : Builtin.min2 (.int .i64 x) (.int .i64 y) = pure (.int .i64 m) := by rw [min2_int, h]
def xor3 (a b c : Int) : Int := Go.bits .xor .u8 (Go.bits .xor .u8 a b) c
def xrow (a b c : List Int) (n : Nat) : List Int := (List.range n).map fun i : Nat => xor3 (rd a (i : Int)) (rd b (i : Int)) (rd c (i : Int))
def xst (a b c : List Int) (n i : Nat) : List Int := xrow a b c i ++ List.replicate (n - i) 0
theorem xst_zero (a b c : List Int) (n : Nat) : xst a b c n 0 = List.replicate n 0 := by simp [xst, xrow]
theorem xst_len (a b c : List Int) (n i : Nat) (h : i ≤ n) : (xst a b c n i).length = n := by simp [xst, xrow]; omega
theorem xst_end (a b c : List Int) (n : Nat) : xst a b c n n = xrow a b c n := by simp [xst]
theorem xst_step (a b c : List Int) (n i : Nat) (h : i < n) : (xst a b c n i).set i (xor3 (rd a (i : Int)) (rd b (i : Int)) (rd c (i : Int))) = xst a b c n (i + 1) := by
  unfold xst
  rw [List.set_append_right _ _ (by simp [xrow])]
  have e : i - (xrow a b c i).length = 0 := by simp [xrow]
  rw [e]
  obtain ⟨m, hm⟩ : ∃ m, n - i = m + 1 := ⟨n - i - 1, by omega⟩
  rw [hm, List.replicate_succ, List.set_cons_zero, show n - (i + 1) = m by omega]
  simp [xrow, List.range_succ]

set_option maxRecDepth 100000 in
set_option maxHeartbeats 4000000 in
theorem CrcXors_long (A0 A1 A2 : Option Addr) (c0 c1 c2 : Nat) (l0 l1 l2 : List Int) (m n : Nat) (w : World) (hl_ : Half w) (hm1 : (if (l1.length : Int) < (l0.length : Int) then (l1.length : Int) else (l0.length : Int)) = (m : Int)) (hm2 : (if (l2.length : Int) < (m : Int) then (l2.length : Int) else (m : Int)) = (n : Int)) (hn : 600 < n) :
    Calls Tryd.prog 6 #[.slice A0 l0.length c0, .slice A1 l1.length c1, .slice A2 l2.length c2] w fun e w' => e = .returned (.bool true) ∧ Below w.heap.size w w' := by
  replace hm1 := min_is hm1
  replace hm2 := min_is hm2
  have hd : decide (600 < n) = true := decide_eq_true hn
  have hd2 : decide ((600 : Int) < (n : Int)) = true := decide_eq_true (by omega)
  clear hn
  go_enter Tryd.func6, Tryd.ntmps6
  go_wp2_with (first | (go_at_call 9; refine (paternosterlaw02_awake.calls true _ rfl hl_).mono ?_; rintro e w1 ⟨rfl, hb1⟩))
  go_ret
  exact ⟨rfl, hb1⟩

theorem cell_all {w : World} {A : Option Addr} {l : List Int} {n : Nat} (h : (Kd.int .u8).C w A n l) (i : Nat) (hi : i < n) : ∃ ad, A = some ad ∧ ∀ W, Below w.heap.size w W → W.cell? (ad.add i) = some (.int .u8 (rd l (i : Int))) := by
  obtain ⟨ad, e, hx⟩ := Kd.at_int h (i : Int) (by omega) (by omega)
  rw [Int.toNat_natCast] at hx
  exact ⟨ad, e, fun W hb => (hb.cell (World.block_lt_of_cell? w _ hx)).trans hx⟩

theorem hp_alloc (W : World) (o : Obj) (N : Nat) : (W.alloc o).heap[N]? = if N = W.heap.size then some o else W.heap[N]? := by
  unfold World.alloc
  exact Array.getElem?_push
theorem hp_drewN (W : World) (m : Nat) : (W.drewN m).heap = W.heap := rfl
theorem hp_drew (W : World) : W.drew.heap = W.heap := rfl
theorem hs_drewN (W : World) (m : Nat) : (W.drewN m).heap.size = W.heap.size := rfl
theorem hs_drew (W : World) : W.drew.heap.size = W.heap.size := rfl
theorem C_row_at (W : World) (N : Nat) (A : Option Addr) (i c : Nat) (l : List Int) (hN : W.heap[N]? = some (.cells #[.slice A i c] 22 (0, 0))) (hl : l.length = i) (hc : i ≤ c) (h : (Kd.int .u8).C W A i l) : Kd.C (Kd.slice 5 (Kd.int .u8)) W (some ⟨N, 0, none⟩) 1 [l] := by
  subst hl
  refine ⟨rfl, by decide, fun _ => ⟨_, rfl, fun j p hp => ?_⟩⟩
  rcases j with _ | j
  · simp only [List.getElem?_cons_zero, Option.some.injEq] at hp
    subst hp
    refine ⟨[.slice A l.length c], rfl, ⟨A, c, rfl, hc, h⟩, fun i u hu => ?_⟩
    rcases i with _ | i
    · simp only [List.getElem?_cons_zero, Option.some.injEq] at hu
      subst hu
      rw [WideShapes.add_plain]; unfold World.cell?; rw [hN]; rfl
    · simp at hu
  · simp at hp

/-- What each operation of the last region has given. -/
def XP (D X0 X1 X2 nv s0 s1 s2 : Value) (vd va vb vc : Int) (j : Nat) (v : Value) (W : World) : Prop :=
  match j with
  | 0 => v = D
  | 1 => ∃ N, v = .slice (some ⟨N, 0, none⟩) 1 1 ∧ W.heap[N]? = some (.cells #[D] 22 (0, 0))
  | 2 => v = .int .u32 vd
  | 3 => v = X0
  | 4 => v = nv
  | 5 => v = s0
  | 6 => ∃ N, v = .slice (some ⟨N, 0, none⟩) 1 1 ∧ W.heap[N]? = some (.cells #[s0] 22 (0, 0))
  | 7 => v = .int .u32 va
  | 8 => v = X1
  | 9 => v = nv
  | 10 => v = s1
  | 11 => ∃ N, v = .slice (some ⟨N, 0, none⟩) 1 1 ∧ W.heap[N]? = some (.cells #[s1] 22 (0, 0))
  | 12 => v = .int .u32 vb
  | 13 => v = .int .u32 (Go.bits .xor .u32 va vb)
  | 14 => v = X2
  | 15 => v = nv
  | 16 => v = s2
  | 17 => ∃ N, v = .slice (some ⟨N, 0, none⟩) 1 1 ∧ W.heap[N]? = some (.cells #[s2] 22 (0, 0))
  | 18 => v = .int .u32 vc
  | 19 => v = .int .u32 vd
  | 20 => v = .bool true
  | 21 => v = .bool true
  | _ => True
theorem XP_mono {D X0 X1 X2 nv s0 s1 s2 : Value} {vd va vb vc : Int} {j : Nat} {v : Value} {W W' : World} (hx : ∀ (N : Nat) (o : Obj), W.heap[N]? = some o → W'.heap[N]? = some o) (h : XP D X0 X1 X2 nv s0 s1 s2 vd va vb vc j v W) : XP D X0 X1 X2 nv s0 s1 s2 vd va vb vc j v W' := by
  match j, h with
  | 0, h => exact h
  | 1, h => exact ⟨h.choose, h.choose_spec.1, hx _ _ h.choose_spec.2⟩
  | 2, h => exact h
  | 3, h => exact h
  | 4, h => exact h
  | 5, h => exact h
  | 6, h => exact ⟨h.choose, h.choose_spec.1, hx _ _ h.choose_spec.2⟩
  | 7, h => exact h
  | 8, h => exact h
  | 9, h => exact h
  | 10, h => exact h
  | 11, h => exact ⟨h.choose, h.choose_spec.1, hx _ _ h.choose_spec.2⟩
  | 12, h => exact h
  | 13, h => exact h
  | 14, h => exact h
  | 15, h => exact h
  | 16, h => exact h
  | 17, h => exact ⟨h.choose, h.choose_spec.1, hx _ _ h.choose_spec.2⟩
  | 18, h => exact h
  | 19, h => exact h
  | 20, h => exact h
  | 21, h => exact h
  | _ + 22, _ => exact trivial
theorem rep_false (n j : Nat) : (Array.replicate n false).getD j false = false := by
  rw [Array.getD_eq_getD_getElem?, Array.getElem?_replicate]
  split <;> rfl
def dstX (i : Nat) : Nat := if i = 21 then 6 else 49 + i
structure XI (wr : World) (D X0 X1 X2 nv s0 s1 s2 : Value) (vd va vb vc : Int) (l : Array Bool) (a : Act) (W : World) : Prop where
  df : a.defers = []
  sz : a.tmps.size = 70
  bl : Below wr.heap.size wr W
  e9 : a.tmps.getD 9 undef = D
  e0 : a.tmps.getD 0 undef = X0
  e1 : a.tmps.getD 1 undef = X1
  e2 : a.tmps.getD 2 undef = X2
  e8 : a.tmps.getD 8 undef = nv
  ph : ∀ j, j < 22 → l.getD j false = true → XP D X0 X1 X2 nv s0 s1 s2 vd va vb vc j (a.tmps.getD (dstX j) undef) W
theorem tmps_self (t : Array Value) (k : Nat) (v : Value) (h : k < t.size) : (t.setIfInBounds k v).getD k undef = v := by
  simp [Array.getD_eq_getD_getElem?, h]
theorem tmps_other (t : Array Value) (k j : Nat) (v : Value) (h : k ≠ j) : (t.setIfInBounds k v).getD j undef = t.getD j undef := by
  simp [Array.getD_eq_getD_getElem?, Array.getElem?_setIfInBounds_ne h]
theorem XI.put {wr : World} {D X0 X1 X2 nv s0 s1 s2 : Value} {vd va vb vc : Int} {l : Array Bool} {a : Act} {W W' : World} (h : XI wr D X0 X1 X2 nv s0 s1 s2 vd va vb vc l a W) (i : Nat) (hi : i < 22) (hs : l.size = 22) (v : Value) (hv : XP D X0 X1 X2 nv s0 s1 s2 vd va vb vc i v W') (hx : ∀ (N : Nat) (o : Obj), W.heap[N]? = some o → W'.heap[N]? = some o) (hb : Below wr.heap.size wr W') :
    XI wr D X0 X1 X2 nv s0 s1 s2 vd va vb vc (l.setIfInBounds i true) { a with tmps := a.tmps.setIfInBounds (dstX i) v } W' := by
  have hd : ∀ j, dstX j = 6 ∨ 49 ≤ dstX j := fun j => by unfold dstX; split <;> omega
  have hd2 : dstX i < 70 := by unfold dstX; split <;> omega
  have hk : ∀ k, k ≠ 6 → k < 49 → dstX i ≠ k := fun k h1 h2 => by have := hd i; omega
  refine ⟨h.df, by simpa using h.sz, hb, ?_, ?_, ?_, ?_, ?_, fun j hj hl => ?_⟩
  · show (a.tmps.setIfInBounds (dstX i) v).getD 9 undef = D
    rw [tmps_other _ _ _ _ (hk 9 (by omega) (by omega))]; exact h.e9
  · show (a.tmps.setIfInBounds (dstX i) v).getD 0 undef = X0
    rw [tmps_other _ _ _ _ (hk 0 (by omega) (by omega))]; exact h.e0
  · show (a.tmps.setIfInBounds (dstX i) v).getD 1 undef = X1
    rw [tmps_other _ _ _ _ (hk 1 (by omega) (by omega))]; exact h.e1
  · show (a.tmps.setIfInBounds (dstX i) v).getD 2 undef = X2
    rw [tmps_other _ _ _ _ (hk 2 (by omega) (by omega))]; exact h.e2
  · show (a.tmps.setIfInBounds (dstX i) v).getD 8 undef = nv
    rw [tmps_other _ _ _ _ (hk 8 (by omega) (by omega))]; exact h.e8
  · show XP _ _ _ _ _ _ _ _ _ _ _ _ j ((a.tmps.setIfInBounds (dstX i) v).getD (dstX j) undef) W'
    by_cases hij : i = j
    · subst hij
      rw [tmps_self _ _ _ (by rw [h.sz]; exact hd2)]; exact hv
    · have hne : dstX i ≠ dstX j := by unfold dstX; split <;> split <;> omega
      rw [tmps_other _ _ _ _ hne]
      rw [getD_set_other _ _ _ _ hij] at hl
      exact XP_mono hx (h.ph j hj hl)
theorem wpOp_go {P : Program} {ops : Array Oper} {Q : Exit → Act → World → Prop} {i : Nat} {o : Oper} {K : Act → World → Prop} {a : Act} {w : World} (ho : ops[i]? = some o) (hg : o.guard = none) (h : ∀ K' : Act → World → Prop, (∀ a w, K a w → K' a w) → Oper.wp P o a w K' Q) : wpOp P ops Q i K a w :=
  wpOp_step ho (fun K' hK => by rw [if_pos (by unfold Region.wanted; rw [hg])]; exact h K' hK)
theorem step_value {P : Program} {o : Oper} {a : Act} {W W' : World} {K' : Act → World → Prop} {Q : Exit → Act → World → Prop} {v : Value} (h : (execOp a.eval o).run P W = .ok (.value v) W') (hk : K' (a.put o.dst v) W') : Oper.wp P o a W K' Q := by
  unfold Oper.wp; rw [h]; exact hk
section
variable {ρ : Operand → Value} {o : Oper} {W : World}
theorem r_move {k : Tmp} {v : Value} (ho : o.op = .move (.tmp k)) (h : ρ (.tmp k) = v) : (execOp ρ o).run Tryd.prog W = .ok (.value v) W := by
  unfold execOp; rw [ho, ← h]; rfl
theorem r_assign {k : Tmp} {v : Value} (ho : o.op = .assign (.tmp k)) (h : ρ (.tmp k) = v) : (execOp ρ o).run Tryd.prog W = .ok (.value v) W := by
  unfold execOp; rw [ho, ← h]; rfl
theorem r_build {k : Tmp} {A : Option Addr} {n c : Nat} (ho : o.op = .buildSlice 39 1 #[(0, .tmp k)]) (h : ρ (.tmp k) = .slice A n c) : (execOp ρ o).run Tryd.prog W = .ok (.value (.slice (some ⟨W.heap.size, 0, none⟩) 1 1)) (W.alloc (.cells #[.slice A n c] 22)) := by
  have h1 := Tryd.underlying39
  unfold execOp; rw [ho]; go_simp
theorem r_slice {x y : Tmp} {v : Value} {u : Value} {r : Value} (ho : o.op = .slice 22 (.tmp x) none (some (.tmp y)) none) (hx : ρ (.tmp x) = v) (hy : ρ (.tmp y) = u) (hc : ∀ W : World, (Instr.slice 22 v none (some u) none).run Tryd.prog W = .ok r W) (hv : ∃ A n c, v = .slice A n c) : (execOp ρ o).run Tryd.prog W = .ok (.value r) W := by
  obtain ⟨A, n, c, rfl⟩ := hv
  unfold execOp; rw [ho]; go_simp
theorem r_xor {x y : Tmp} {a b : Int} (ho : o.op = .binOp .xor 25 (.tmp x) (.tmp y) 25) (hx : ρ (.tmp x) = .int .u32 a) (hy : ρ (.tmp y) = .int .u32 b) : (execOp ρ o).run Tryd.prog W = .ok (.value (.int .u32 (Go.bits .xor .u32 a b))) W := by
  unfold execOp; rw [ho]; go_simp
theorem r_eql {x y : Tmp} {a : Int} (ho : o.op = .binOp .eql 25 (.tmp x) (.tmp y) 25) (hx : ρ (.tmp x) = .int .u32 a) (hy : ρ (.tmp y) = .int .u32 a) : (execOp ρ o).run Tryd.prog W = .ok (.value (.bool true)) W := by
  unfold execOp; rw [ho]; go_simp
theorem r_call {x : Tmp} {v : Value} (ho : o.op = .call { callee := .value (.func 11), args := #[.tmp x], argTypes := #[39] }) (hx : ρ (.tmp x) = v) (hf : ρ (.func 11) = .func (.func 11) #[] #[]) : (execOp ρ o).run Tryd.prog W = .ok (.enter 11 #[v]) W := by
  unfold execOp; rw [ho]; go_simp
end
theorem ext_alloc (W : World) (o' : Obj) : ∀ (N : Nat) (o : Obj), W.heap[N]? = some o → (W.alloc o').heap[N]? = some o := fun N o h => blk_alloc h o'
theorem ext_drewN (W : World) (m : Nat) : ∀ (N : Nat) (o : Obj), W.heap[N]? = some o → (W.drewN m).heap[N]? = some o := fun N o h => h

set_option maxRecDepth 100000 in
set_option maxHeartbeats 8000000 in
theorem CrcXors_short (A0 A1 A2 : Option Addr) (c0 c1 c2 : Nat) (l0 l1 l2 : List Int) (m n : Nat) (vd va vb vc : Int) (w : World) (hr0 : Kd.C (Kd.int .u8) w A0 l0.length l0) (hc0 : l0.length ≤ c0) (hr1 : Kd.C (Kd.int .u8) w A1 l1.length l1) (hc1 : l1.length ≤ c1) (hr2 : Kd.C (Kd.int .u8) w A2 l2.length l2) (hc2 : l2.length ≤ c2) (hl_ : Half w)
    (hm1 : (if (l1.length : Int) < (l0.length : Int) then (l1.length : Int) else (l0.length : Int)) = (m : Int)) (hm2 : (if (l2.length : Int) < (m : Int) then (l2.length : Int) else (m : Int)) = (n : Int)) (hn : n ≤ 600)
    (hod : crc_Of.f [xrow l0 l1 l2 n] = some vd) (hoa : crc_Of.f [l0.take n] = some va) (hob : crc_Of.f [l1.take n] = some vb) (hoc : crc_Of.f [l2.take n] = some vc) (hv : vd = Go.bits .xor .u32 (Go.bits .xor .u32 va vb) vc) :
    Calls Tryd.prog 6 #[.slice A0 l0.length c0, .slice A1 l1.length c1, .slice A2 l2.length c2] w fun e w' => e = .returned (.bool true) ∧ Below w.heap.size w w' := by
  have HN0 := Aside0.mk (show n ≤ l0.length by split at hm1 <;> split at hm2 <;> omega)
  have HN1 := Aside0.mk (show n ≤ l1.length by split at hm1 <;> split at hm2 <;> omega)
  have HN2 := Aside0.mk (show n ≤ l2.length by split at hm1 <;> split at hm2 <;> omega)
  replace hm1 := min_is hm1
  replace hm2 := min_is hm2
  have hd : decide (600 < n) = false := decide_eq_false (by omega)
  have hd2 : decide ((600 : Int) < (n : Int)) = false := decide_eq_false (by omega)
  have hmk := print_make (P := Tryd.prog) 22 5 .u8 1 Tryd.underlying22 info5 (by decide) n (by omega)
  have HN := Aside0.mk hn
  have HR0 := Aside0.mk hr0
  have HR1 := Aside0.mk hr1
  have HR2 := Aside0.mk hr2
  have HL := Aside0.mk hl_
  have HO := Aside0.mk (And.intro hod (And.intro hoa (And.intro hob hoc)))
  have HV := Aside0.mk hv
  clear hn hr0 hr1 hr2 hl_ hod hoa hob hoc hv
  go_enter Tryd.func6, Tryd.ntmps6
  go_wp2_with (first | (go_at_call 9; refine (paternosterlaw02_awake.calls true _ rfl HL.out).mono ?_; rintro e w1 ⟨rfl, hb1⟩; have HB := Aside0.mk hb1; clear hb1))
  clear hd hd2 hm1 hm2 hmk
  have hown0 : (w1.alloc (.cells (madeCells #[.int .u8 0] n) 5)).ownsRow w1.heap.size 5 1 (.slice (some ⟨w1.heap.size, 0, none⟩) n n) n (nums .u8 (xst l0 l1 l2 n 0)) := by
    rw [xst_zero]; exact own_made w1 _ 5 .u8 n (Nat.le_refl _) (by have := HN.out; omega)
  have HOWN := Aside0.mk hown0
  have hbA : Below w.heap.size w (w1.alloc (.cells (madeCells #[.int .u8 0] n) 5)) := below_alloc HB.out _
  have HBA := Aside0.mk hbA
  have HSZ := Aside0.mk (below_size HB.out)
  clear hown0 hbA
  go_loopg [10] n (fun g v10 w' => ∃ i : Nat, v10 = .int .i64 i ∧ Aside0 (g + i = n) ∧ Aside0 (w'.ownsRow w1.heap.size 5 1 (.slice (some ⟨w1.heap.size, 0, none⟩) n n) n (nums .u8 (xst l0 l1 l2 n i))) ∧ Aside0 (Below w.heap.size w w'))
  case atStart => exact ⟨0, rfl, ⟨by omega⟩, HOWN, HBA⟩
  case round =>
    clear HOWN HBA
    obtain ⟨i, rfl, HI, HOW, HBW⟩ := hrel
    cases gk with
    | zero =>
      have hlt : decide ((i : Int) < (n : Int)) = false := decide_eq_false (by have := HI.out; omega)
      have hi : i = n := by have := HI.out; omega
      subst hi
      rw [xst_end] at HOW
      obtain ⟨i0, hi0, _, hsz, _⟩ := info_parts info5
      have hct0 := (print_take_of (P := Tryd.prog) (Value.int .u8) 0 22 5 .i64 Tryd.underlying22 hi0 hsz A0 c0 l0 (i : Int) (by omega) (by have := HN0.out; omega) hc0).1
      have hct1 := (print_take_of (P := Tryd.prog) (Value.int .u8) 0 22 5 .i64 Tryd.underlying22 hi0 hsz A1 c1 l1 (i : Int) (by omega) (by have := HN1.out; omega) hc1).1
      have hct2 := (print_take_of (P := Tryd.prog) (Value.int .u8) 0 22 5 .i64 Tryd.underlying22 hi0 hsz A2 c2 l2 (i : Int) (by omega) (by have := HN2.out; omega) hc2).1
      have et : ∀ l : List Int, i ≤ l.length → (l.take (i : Int).toNat).length = i := fun l h => by rw [Int.toNat_natCast, List.length_take]; omega
      rw [et _ HN0.out] at hct0
      rw [et _ HN1.out] at hct1
      rw [et _ HN2.out] at hct2
      clear et
      have hCt : ∀ (W : World) (A : Option Addr) (l : List Int), (Kd.int .u8).C w A l.length l → i ≤ l.length → Below w.heap.size w W → (Kd.int .u8).C W A i (l.take i) := fun W A l h hi hb => by
        have := Kd.C_take (Kd.C_below h hb) hi
        rwa [show (l.take i).length = i by rw [List.length_take]; omega] at this
      have hCd : (Kd.int .u8).C wr (some ⟨w1.heap.size, 0, none⟩) i (xrow l0 l1 l2 i) := Kd.C_of_reads (enc := Value.int .u8) (d := (0 : Int)) (h1 := fun _ => rfl) (own_reads' HOW.out)
      have hrow : ∀ (W : World) (N : Nat) (A : Option Addr) (c : Nat) (l : List Int) (v : Int), W.heap[N]? = some (.cells #[.slice A i c] 22 (0, 0)) → l.length = i → i ≤ c → (Kd.int .u8).C W A i l → crc_Of.f [l] = some v → Below wr.heap.size wr W → Calls Tryd.prog 11 #[.slice (some ⟨N, 0, none⟩) 1 1] W fun e w' => e = .returned (.int .u32 v) ∧ Drawn0 W w' := fun W N A c l v hN hl hc h hf hb =>
        crc_Of.calls _ 1 [l] v _ (C_row_at W N A i c l hN hl hc h) (by simp) hf (Half.keep HL.out (below_step HBW.out hb))
      have hrd : ∀ (W : World) (N : Nat), W.heap[N]? = some (.cells #[.slice (some ⟨w1.heap.size, 0, none⟩) i i] 22 (0, 0)) → Below wr.heap.size wr W → Calls Tryd.prog 11 #[.slice (some ⟨N, 0, none⟩) 1 1] W fun e w' => e = .returned (.int .u32 vd) ∧ Drawn0 W w' := fun W N hN hb =>
        hrow W N _ _ (xrow l0 l1 l2 i) _ hN (by simp [xrow]) (Nat.le_refl _) (Kd.C_below hCd hb) HO.out.1 hb
      have hra : ∀ (W : World) (N : Nat), W.heap[N]? = some (.cells #[.slice A0 i c0] 22 (0, 0)) → Below wr.heap.size wr W → Calls Tryd.prog 11 #[.slice (some ⟨N, 0, none⟩) 1 1] W fun e w' => e = .returned (.int .u32 va) ∧ Drawn0 W w' := fun W N hN hb =>
        hrow W N _ _ (l0.take i) _ hN (by rw [List.length_take]; have := HN0.out; omega) (by have := HN0.out; omega) (hCt W A0 l0 HR0.out HN0.out (below_step HBW.out hb)) HO.out.2.1 hb
      have hrb : ∀ (W : World) (N : Nat), W.heap[N]? = some (.cells #[.slice A1 i c1] 22 (0, 0)) → Below wr.heap.size wr W → Calls Tryd.prog 11 #[.slice (some ⟨N, 0, none⟩) 1 1] W fun e w' => e = .returned (.int .u32 vb) ∧ Drawn0 W w' := fun W N hN hb =>
        hrow W N _ _ (l1.take i) _ hN (by rw [List.length_take]; have := HN1.out; omega) (by have := HN1.out; omega) (hCt W A1 l1 HR1.out HN1.out (below_step HBW.out hb)) HO.out.2.2.1 hb
      have hrc : ∀ (W : World) (N : Nat), W.heap[N]? = some (.cells #[.slice A2 i c2] 22 (0, 0)) → Below wr.heap.size wr W → Calls Tryd.prog 11 #[.slice (some ⟨N, 0, none⟩) 1 1] W fun e w' => e = .returned (.int .u32 vc) ∧ Drawn0 W w' := fun W N hN hb =>
        hrow W N _ _ (l2.take i) _ hN (by rw [List.length_take]; have := HN2.out; omega) (by have := HN2.out; omega) (hCt W A2 l2 HR2.out HN2.out (below_step HBW.out hb)) HO.out.2.2.2 hb
      have HRD := Aside0.mk hrd
      have HRA := Aside0.mk hra
      have HRB := Aside0.mk hrb
      have HRC := Aside0.mk hrc
      have hv2 := HV.out
      have hvv : vd = Go.bits .xor .u32 (Go.bits .xor .u32 va vb) vc := HV.out
      have hvD : (vd = Go.bits .xor .u32 (Go.bits .xor .u32 va vb) vc) = True := eq_true hv2
      clear hrd hra hrb hrc hrow hCt hCd HOW hv2
      try clear HV
      clear HR0 HR1 HR2 HL HO HN
      go_wp2
      refine wp_region_any (by kernel_rfl) ?_
      refine wpAny_inv (XI wr (.slice (some ⟨w1.heap.size, 0, none⟩) i i) (.slice A0 l0.length c0) (.slice A1 l1.length c1) (.slice A2 l2.length c2) (.int .i64 (i : Int)) (.slice A0 i c0) (.slice A1 i c1) (.slice A2 i c2) vd va vb vc) ?_ ?_ (fun l hs hr => ends_of (by kernel_rfl) l hs hr) _ _ _ _ (by rfl) (by decide) ?_
      · intro l a W j hI hs0 hj0 hn
        have hs : l.size = 22 := hs0
        have hj : j < 22 := hj0
        clear hs0 hj0
        obtain rfl | rfl | rfl | rfl | rfl | rfl | rfl | rfl | rfl | rfl | rfl | rfl | rfl | rfl | rfl | rfl | rfl | rfl | rfl | rfl | rfl | rfl : j = 0 ∨ j = 1 ∨ j = 2 ∨ j = 3 ∨ j = 4 ∨ j = 5 ∨ j = 6 ∨ j = 7 ∨ j = 8 ∨ j = 9 ∨ j = 10 ∨ j = 11 ∨ j = 12 ∨ j = 13 ∨ j = 14 ∨ j = 15 ∨ j = 16 ∨ j = 17 ∨ j = 18 ∨ j = 19 ∨ j = 20 ∨ j = 21 := by omega
        · refine wpOp_go rfl rfl (fun K' hK => ?_)
          exact step_value (r_move rfl rfl) (hK _ _ (hI.put 0 (by omega) hs _ hI.e9 (fun _ _ h_ => h_) hI.bl))
        · refine wpOp_go rfl rfl (fun K' hK => ?_)
          have L0 : l.getD 0 false = true := hn _ rfl ⟨0, .data⟩ (by simp) rfl
          have E0 := hI.ph 0 (by omega) L0
          exact step_value (r_build rfl E0) (hK _ _ (hI.put 1 (by omega) hs _ ⟨_, rfl, blk_new W _⟩ (ext_alloc W _) (below_alloc hI.bl _)))
        · refine wpOp_go rfl rfl (fun K' hK => ?_)
          have L1 : l.getD 1 false = true := hn _ rfl ⟨1, .data⟩ (by simp) rfl
          have E1 := hI.ph 1 (by omega) L1
          obtain ⟨N, eN, hN⟩ := E1
          unfold Oper.wp
          rw [r_call rfl eN rfl]
          refine (HRD.out W N hN hI.bl).mono ?_
          rintro e w4 ⟨rfl, ⟨m4, rfl⟩⟩
          exact hK _ _ (hI.put 2 (by omega) hs _ rfl (ext_drewN W m4) (pw_below_drewN hI.bl m4))
        · refine wpOp_go rfl rfl (fun K' hK => ?_)
          exact step_value (r_move rfl rfl) (hK _ _ (hI.put 3 (by omega) hs _ hI.e0 (fun _ _ h_ => h_) hI.bl))
        · refine wpOp_go rfl rfl (fun K' hK => ?_)
          exact step_value (r_move rfl rfl) (hK _ _ (hI.put 4 (by omega) hs _ hI.e8 (fun _ _ h_ => h_) hI.bl))
        · refine wpOp_go rfl rfl (fun K' hK => ?_)
          have L3 : l.getD 3 false = true := hn _ rfl ⟨3, .data⟩ (by simp) rfl
          have E3 := hI.ph 3 (by omega) L3
          have L4 : l.getD 4 false = true := hn _ rfl ⟨4, .data⟩ (by simp) rfl
          have E4 := hI.ph 4 (by omega) L4
          exact step_value (r_slice rfl E3 E4 hct0 ⟨_, _, _, rfl⟩) (hK _ _ (hI.put 5 (by omega) hs _ rfl (fun _ _ h_ => h_) hI.bl))
        · refine wpOp_go rfl rfl (fun K' hK => ?_)
          have L5 : l.getD 5 false = true := hn _ rfl ⟨5, .data⟩ (by simp) rfl
          have E5 := hI.ph 5 (by omega) L5
          exact step_value (r_build rfl E5) (hK _ _ (hI.put 6 (by omega) hs _ ⟨_, rfl, blk_new W _⟩ (ext_alloc W _) (below_alloc hI.bl _)))
        · refine wpOp_go rfl rfl (fun K' hK => ?_)
          have L6 : l.getD 6 false = true := hn _ rfl ⟨6, .data⟩ (by simp) rfl
          have E6 := hI.ph 6 (by omega) L6
          obtain ⟨N, eN, hN⟩ := E6
          unfold Oper.wp
          rw [r_call rfl eN rfl]
          refine (HRA.out W N hN hI.bl).mono ?_
          rintro e w4 ⟨rfl, ⟨m4, rfl⟩⟩
          exact hK _ _ (hI.put 7 (by omega) hs _ rfl (ext_drewN W m4) (pw_below_drewN hI.bl m4))
        · refine wpOp_go rfl rfl (fun K' hK => ?_)
          exact step_value (r_move rfl rfl) (hK _ _ (hI.put 8 (by omega) hs _ hI.e1 (fun _ _ h_ => h_) hI.bl))
        · refine wpOp_go rfl rfl (fun K' hK => ?_)
          exact step_value (r_move rfl rfl) (hK _ _ (hI.put 9 (by omega) hs _ hI.e8 (fun _ _ h_ => h_) hI.bl))
        · refine wpOp_go rfl rfl (fun K' hK => ?_)
          have L8 : l.getD 8 false = true := hn _ rfl ⟨8, .data⟩ (by simp) rfl
          have E8 := hI.ph 8 (by omega) L8
          have L9 : l.getD 9 false = true := hn _ rfl ⟨9, .data⟩ (by simp) rfl
          have E9 := hI.ph 9 (by omega) L9
          exact step_value (r_slice rfl E8 E9 hct1 ⟨_, _, _, rfl⟩) (hK _ _ (hI.put 10 (by omega) hs _ rfl (fun _ _ h_ => h_) hI.bl))
        · refine wpOp_go rfl rfl (fun K' hK => ?_)
          have L10 : l.getD 10 false = true := hn _ rfl ⟨10, .data⟩ (by simp) rfl
          have E10 := hI.ph 10 (by omega) L10
          exact step_value (r_build rfl E10) (hK _ _ (hI.put 11 (by omega) hs _ ⟨_, rfl, blk_new W _⟩ (ext_alloc W _) (below_alloc hI.bl _)))
        · refine wpOp_go rfl rfl (fun K' hK => ?_)
          have L11 : l.getD 11 false = true := hn _ rfl ⟨11, .data⟩ (by simp) rfl
          have E11 := hI.ph 11 (by omega) L11
          obtain ⟨N, eN, hN⟩ := E11
          unfold Oper.wp
          rw [r_call rfl eN rfl]
          refine (HRB.out W N hN hI.bl).mono ?_
          rintro e w4 ⟨rfl, ⟨m4, rfl⟩⟩
          exact hK _ _ (hI.put 12 (by omega) hs _ rfl (ext_drewN W m4) (pw_below_drewN hI.bl m4))
        · refine wpOp_go rfl rfl (fun K' hK => ?_)
          have L7 : l.getD 7 false = true := hn _ rfl ⟨7, .data⟩ (by simp) rfl
          have E7 := hI.ph 7 (by omega) L7
          have L12 : l.getD 12 false = true := hn _ rfl ⟨12, .data⟩ (by simp) rfl
          have E12 := hI.ph 12 (by omega) L12
          exact step_value (r_xor rfl E7 E12) (hK _ _ (hI.put 13 (by omega) hs _ rfl (fun _ _ h_ => h_) hI.bl))
        · refine wpOp_go rfl rfl (fun K' hK => ?_)
          exact step_value (r_move rfl rfl) (hK _ _ (hI.put 14 (by omega) hs _ hI.e2 (fun _ _ h_ => h_) hI.bl))
        · refine wpOp_go rfl rfl (fun K' hK => ?_)
          exact step_value (r_move rfl rfl) (hK _ _ (hI.put 15 (by omega) hs _ hI.e8 (fun _ _ h_ => h_) hI.bl))
        · refine wpOp_go rfl rfl (fun K' hK => ?_)
          have L14 : l.getD 14 false = true := hn _ rfl ⟨14, .data⟩ (by simp) rfl
          have E14 := hI.ph 14 (by omega) L14
          have L15 : l.getD 15 false = true := hn _ rfl ⟨15, .data⟩ (by simp) rfl
          have E15 := hI.ph 15 (by omega) L15
          exact step_value (r_slice rfl E14 E15 hct2 ⟨_, _, _, rfl⟩) (hK _ _ (hI.put 16 (by omega) hs _ rfl (fun _ _ h_ => h_) hI.bl))
        · refine wpOp_go rfl rfl (fun K' hK => ?_)
          have L16 : l.getD 16 false = true := hn _ rfl ⟨16, .data⟩ (by simp) rfl
          have E16 := hI.ph 16 (by omega) L16
          exact step_value (r_build rfl E16) (hK _ _ (hI.put 17 (by omega) hs _ ⟨_, rfl, blk_new W _⟩ (ext_alloc W _) (below_alloc hI.bl _)))
        · refine wpOp_go rfl rfl (fun K' hK => ?_)
          have L17 : l.getD 17 false = true := hn _ rfl ⟨17, .data⟩ (by simp) rfl
          have E17 := hI.ph 17 (by omega) L17
          obtain ⟨N, eN, hN⟩ := E17
          unfold Oper.wp
          rw [r_call rfl eN rfl]
          refine (HRC.out W N hN hI.bl).mono ?_
          rintro e w4 ⟨rfl, ⟨m4, rfl⟩⟩
          exact hK _ _ (hI.put 18 (by omega) hs _ rfl (ext_drewN W m4) (pw_below_drewN hI.bl m4))
        · refine wpOp_go rfl rfl (fun K' hK => ?_)
          have L13 : l.getD 13 false = true := hn _ rfl ⟨13, .data⟩ (by simp) rfl
          have E13 := hI.ph 13 (by omega) L13
          have L18 : l.getD 18 false = true := hn _ rfl ⟨18, .data⟩ (by simp) rfl
          have E18 := hI.ph 18 (by omega) L18
          exact step_value (r_xor rfl E13 E18) (hK _ _ (hI.put 19 (by omega) hs _ (by rw [hvv]; rfl) (fun _ _ h_ => h_) hI.bl))
        · refine wpOp_go rfl rfl (fun K' hK => ?_)
          have L2 : l.getD 2 false = true := hn _ rfl ⟨2, .data⟩ (by simp) rfl
          have E2 := hI.ph 2 (by omega) L2
          have L19 : l.getD 19 false = true := hn _ rfl ⟨19, .data⟩ (by simp) rfl
          have E19 := hI.ph 19 (by omega) L19
          exact step_value (r_eql rfl E2 E19) (hK _ _ (hI.put 20 (by omega) hs _ rfl (fun _ _ h_ => h_) hI.bl))
        · refine wpOp_go rfl rfl (fun K' hK => ?_)
          have L20 : l.getD 20 false = true := hn _ rfl ⟨20, .data⟩ (by simp) rfl
          have E20 := hI.ph 20 (by omega) L20
          exact step_value (r_assign rfl E20) (hK _ _ (hI.put 21 (by omega) hs _ rfl (fun _ _ h_ => h_) hI.bl))
      · intro l a W hI hall
        have h21 := hI.ph 21 (by omega) (hall 21 (by decide))
        have hdf := hI.df
        have hbl := hI.bl
        go_wp2
        refine bodyPost_ret (results_tmp rfl _ _ _) hdf ?_
        exact ⟨congrArg Ending.returned h21, below_step HBW.out hbl⟩
      · exact ⟨rfl, rfl, below_drew (Below.refl _ _), rfl, rfl, rfl, rfl, rfl, fun j hj hl => absurd ((rep_false _ j).symm.trans hl) (by decide)⟩
    | succ gko =>
      have hilt : i < n := by have := HI.out; omega
      have hlt : decide ((i : Int) < (n : Int)) = true := decide_eq_true (by omega)
      obtain ⟨ad0, rfl, hx0⟩ := cell_all HR0.out i (by have := HN0.out; omega)
      obtain ⟨ad1, rfl, hx1⟩ := cell_all HR1.out i (by have := HN1.out; omega)
      obtain ⟨ad2, rfl, hx2⟩ := cell_all HR2.out i (by have := HN2.out; omega)
      have p1 : ((0 : Int) ≤ (i : Int)) = True := eq_true (by omega)
      have q0 : ((i : Int) < (l0.length : Int)) = True := eq_true (by have := HN0.out; omega)
      have q1 : ((i : Int) < (l1.length : Int)) = True := eq_true (by have := HN1.out; omega)
      have q2 : ((i : Int) < (l2.length : Int)) = True := eq_true (by have := HN2.out; omega)
      have q3 : ((i : Int) < (n : Int)) = True := eq_true (by omega)
      obtain ⟨hcd, hfd⟩ := own_at (own_drew HOW.out) (i : Int) (by omega) (by omega)
      rw [Int.toNat_natCast] at hcd hfd
      have HLT := Aside0.mk hilt
      have hst := (own_store (own_drew HOW.out) (i : Int) (xor3 (rd l0 (i : Int)) (rd l1 (i : Int)) (rd l2 (i : Int)))).1
      rw [Int.toNat_natCast, xst_step _ _ _ _ _ hilt] at hst
      have HST := Aside0.mk hst
      clear hilt hst
      go_wp2
      go_region_held (fun w' => Below w.heap.size w w') (first | assumption | exact below_drew HBW.out | exact below_set (by assumption) HSZ.out) (fail)
      all_goals go_wp2
      all_goals go_roundg gko
      case measure => omega
      case rel => exact ⟨i + 1, by rw [crc_wrap i (by have := HN.out; have := HLT.out; omega)], ⟨by have := HI.out; omega⟩, HST, ⟨below_set (below_drew HBW.out) HSZ.out⟩⟩
end Go.Proofs.YtmegcockgohkhaaDoor.PAll
