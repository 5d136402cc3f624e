/- Walks (no statement stands here). -/
import Derived.Test.YthpfhglncbkinaaDoorSw1
import Derived.Test.YthpfhglncbkinaaDoorPAllx0
import Derived.Test.YthpfhglncbkinaaDoorWMore
import Derived.Test.YthpfhglncbkinaaDoorWLast
namespace Go.Proofs.YthpfhglncbkinaaDoor.SF
open Go.RowKit Go.Sx Go.Proofs.YthpfhglncbkinaaDoorW.PrintWords Go.Proofs.YthpfhglncbkinaaDoorW.PrintLast Go.Proofs.YthpfhglncbkinaaDoorW.PrintMore
set_option linter.unusedVariables false
set_option linter.unusedSimpArgs false
set_option maxRecDepth 100000
theorem app3 (x p : Value) : (#[] ++ #[x] ++ #[p] : Array Value) = #[x, p] := rfl
def bitI (c : Int) : Int := if c < 0 ∨ 64 ≤ c then 0 else IntKind.u64.wrap (1 * 2 ^ (min c.toNat IntKind.u64.bits))
def hasB (x c : Int) : Bool := bits .and .u64 x (bitI c) != 0
def cells5 (x : PAll.S40) (A : Option Addr) (c : Nat) : List Value := [.int .i64 x.f0, .int .i64 x.f1, .int .i64 x.f2, .slice A x.f3.length c, .int .u64 x.f4]
/-- What is read of a row of facts. -/
structure Facts (w : World) (A : Option Addr) (l : List PAll.S40) (ad : Addr) (PA : Nat → Option Addr) (PC : Nat → Nat) : Prop where
  hA : 0 < l.length → A = some ad
  hn : l.length ≤ 9223372036854775807
  le : ∀ j, (l.getD j PAll.z40).f3.length ≤ PC j
  row : ∀ j, j < l.length → Kd.C (Kd.int .i64) w (PA j) (l.getD j PAll.z40).f3.length (l.getD j PAll.z40).f3
  cell : ∀ j, j < l.length → ∀ i u, (cells5 (l.getD j PAll.z40) (PA j) (PC j))[i]? = some u → w.cell? ((ad.add (j * 5)).add i) = some u
theorem facts_of {w : World} {A : Option Addr} {l : List PAll.S40} (h : Kd.C PAll.k40 w A l.length l) : ∃ ad PA PC, Facts w A l ad PA PC := by
  obtain ⟨_, hn, hr⟩ := h
  have key : ∃ (PA : Nat → Option Addr) (PC : Nat → Nat) (ad : Addr), (0 < l.length → A = some ad) ∧ (∀ j, (l.getD j PAll.z40).f3.length ≤ PC j) ∧ ∀ j, j < l.length → Kd.C (Kd.int .i64) w (PA j) (l.getD j PAll.z40).f3.length (l.getD j PAll.z40).f3 ∧ ∀ i u, (cells5 (l.getD j PAll.z40) (PA j) (PC j))[i]? = some u → w.cell? ((ad.add (j * 5)).add i) = some u := by
    rcases Nat.eq_zero_or_pos l.length with h0 | h0
    · refine ⟨fun _ => none, fun j => (l.getD j PAll.z40).f3.length, ⟨0, 0, none⟩, fun h => by omega, fun j => Nat.le_refl _, fun j hj => by omega⟩
    · obtain ⟨ad, rfl, hc⟩ := hr h0
      have h1 : ∀ j, ∃ pa pc, (l.getD j PAll.z40).f3.length ≤ pc ∧ (j < l.length → Kd.C (Kd.int .i64) w pa (l.getD j PAll.z40).f3.length (l.getD j PAll.z40).f3 ∧ ∀ i u, (cells5 (l.getD j PAll.z40) pa pc)[i]? = some u → w.cell? ((ad.add (j * 5)).add i) = some u) := by
        intro j
        by_cases hj : j < l.length
        · obtain ⟨c, hs, hK, hcell⟩ := hc j (l.getD j PAll.z40) (by rw [List.getD_eq_getElem?_getD, List.getElem?_eq_getElem hj]; rfl)
          obtain ⟨A3, c3, rfl, l3, g3⟩ := PAll.k40_open hK
          exact ⟨A3, c3, l3, fun _ => ⟨g3, fun i u hu => by rw [Sx.add_add]; exact hcell i u hu⟩⟩
        · exact ⟨none, _, Nat.le_refl _, fun h => absurd h hj⟩
      refine ⟨fun j => (h1 j).choose, fun j => (h1 j).choose_spec.choose, ad, fun _ => rfl, fun j => (h1 j).choose_spec.choose_spec.1, fun j hj => (h1 j).choose_spec.choose_spec.2 hj⟩
  obtain ⟨PA, PC, ad, h1, h2, h3⟩ := key
  exact ⟨ad, PA, PC, h1, hn, h2, fun j hj => (h3 j hj).1, fun j hj => (h3 j hj).2⟩
theorem Facts.below {w w1 : World} {A : Option Addr} {l : List PAll.S40} {ad : Addr} {PA : Nat → Option Addr} {PC : Nat → Nat} (h : Facts w A l ad PA PC) (hb : Below w.heap.size w w1) : Facts w1 A l ad PA PC :=
  ⟨h.hA, h.hn, h.le, fun j hj => Kd.C_below (h.row j hj) hb, fun j hj i u hu => pw_cell_below hb (h.cell j hj i u hu)⟩

theorem bit_calls (c : Int) (w : World) : Calls Tryd.prog 37 #[.int .i64 c] w fun e w' => e = .returned (.int .u64 (bitI c)) ∧ Below w.heap.size w w' := by
  refine enter (w0 := w) (hp := [old w]) (env := [(0, .int .i64 c)]) Tryd.func37 rfl 11 rfl (by simp) rfl (HeapOK.start _) ?_
  refine wc_seq ?_
  refine wc_region ?_
  refine wl_q (q_assign rfl rfl) rfl rfl (by decide) ?_
  refine wl_nil ?_
  refine fq_then ?_
  refine wc_seq ?_
  refine wc_seq ?_
  refine wc_region ?_
  refine wl_q (q_move rfl rfl) rfl rfl (by decide) ?_
  refine wl_q (q_bin rfl rfl rfl rfl) rfl rfl (by decide) ?_
  refine wl_q (q_move rfl rfl) rfl rfl (by decide) ?_
  refine wl_split (t := 5) rfl (fun h5 => ?_) (fun h5 => ?_)
  · skip
    refine wl_skip (b := true) rfl rfl rfl rfl (by decide) ?_
    refine wl_skip (b := true) rfl rfl rfl rfl (by decide) ?_
    refine wl_q (q_pick rfl rfl rfl) rfl rfl (by decide) ?_
    refine wl_nil ?_
    refine fq_then ?_
    refine wc_true rfl ?_
    refine wc_seq ?_
    refine wc_region ?_
    refine wl_q (q_assign rfl rfl) rfl rfl (by decide) ?_
    refine wl_nil ?_
    refine fq_then ?_
    refine wc_ret ?_
    refine fq_then_ret ?_
    refine fq_ret1 rfl rfl (fun w1 H => ?_)
    refine ⟨?_, H.toBelow (by simp)⟩
    unfold bitI
    first | rw [if_pos (by first | exact .inl (of_decide_eq_true h5) | exact .inr (of_decide_eq_true h8))] | rw [if_neg (fun q => q.elim (fun q => (of_decide_eq_false h5) q) (fun q => (of_decide_eq_false h8) q))]
  · skip
    refine wl_want (b := false) (q_move rfl rfl) rfl rfl rfl rfl (by decide) ?_
    refine wl_want (b := false) (q_bin rfl rfl rfl rfl) rfl rfl rfl rfl (by decide) ?_
    refine wl_q (q_pick rfl rfl rfl) rfl rfl (by decide) ?_
    refine wl_nil ?_
    refine fq_then ?_
    refine wc_cond rfl (fun h8 => ?_) (fun h8 => ?_)
    · skip
      refine wc_seq ?_
      refine wc_region ?_
      refine wl_q (q_assign rfl rfl) rfl rfl (by decide) ?_
      refine wl_nil ?_
      refine fq_then ?_
      refine wc_ret ?_
      refine fq_then_ret ?_
      refine fq_ret1 rfl rfl (fun w1 H => ?_)
      refine ⟨?_, H.toBelow (by simp)⟩
      unfold bitI
      first | rw [if_pos (by first | exact .inl (of_decide_eq_true h5) | exact .inr (of_decide_eq_true h8))] | rw [if_neg (fun q => q.elim (fun q => (of_decide_eq_false h5) q) (fun q => (of_decide_eq_false h8) q))]
    · skip
      refine wc_skip ?_
      refine fq_then ?_
      refine wc_seq ?_
      refine wc_region ?_
      refine wl_q (q_move rfl rfl) rfl rfl (by decide) ?_
      refine wl_q (q_shl rfl rfl rfl (by have := of_decide_eq_false h5; omega)) rfl rfl (by decide) ?_
      refine wl_q (q_assign rfl rfl) rfl rfl (by decide) ?_
      refine wl_nil ?_
      refine fq_then ?_
      refine wc_ret ?_
      refine fq_ret1 rfl rfl (fun w1 H => ?_)
      refine ⟨?_, H.toBelow (by simp)⟩
      unfold bitI
      first | rw [if_pos (by first | exact .inl (of_decide_eq_true h5) | exact .inr (of_decide_eq_true h8))] | rw [if_neg (fun q => q.elim (fun q => (of_decide_eq_false h5) q) (fun q => (of_decide_eq_false h8) q))]

theorem has_calls (x c : Int) (w : World) : Calls Tryd.prog 25 #[.int .u64 x, .int .i64 c] w fun e w' => e = .returned (.bool (hasB x c)) ∧ Below w.heap.size w w' := by
  refine enter (w0 := w) (hp := [old w]) (env := [(0, .int .u64 x), (1, .int .i64 c)]) Tryd.func25 rfl 10 rfl (by simp) rfl (HeapOK.start _) ?_
  refine wc_seq ?_
  refine wc_region ?_
  refine wl_q (q_assign rfl rfl) rfl rfl (by decide) ?_
  refine wl_nil ?_
  refine fq_then ?_
  refine wc_seq ?_
  refine wc_region ?_
  refine wl_q (q_move rfl rfl) rfl rfl (by decide) ?_
  refine wl_q (q_move rfl rfl) rfl rfl (by decide) ?_
  refine wl_q (q_call rfl En37 rfl (fun w1 _ => bit_calls _ _)) rfl rfl (by decide) ?_
  refine wl_q (q_bin rfl rfl rfl rfl) rfl rfl (by decide) ?_
  refine wl_q (q_bin rfl rfl rfl rfl) rfl rfl (by decide) ?_
  refine wl_q (q_assign rfl rfl) rfl rfl (by decide) ?_
  refine wl_nil ?_
  refine fq_then ?_
  refine wc_ret ?_
  refine fq_ret1 rfl rfl (fun w1 H => ?_)
  exact ⟨rfl, H.toBelow (by simp)⟩

theorem frees1_calls (w0 : World) (b : Nat) (car : Int) (x : PAll.S40) (A : Option Addr) (c : Nat) (w : World) (hw : HeapOK w0 [.blk b [.int .i64 car] 3, old w0] w) : Calls Tryd.prog 24 #[.agg (cells5 x A c).toArray, .pointer (some ⟨b, 0, none⟩)] w fun e w' => e = .returned (.bool (hasB x.f4 car)) ∧ HeapOK w0 [.blk b [.int .i64 car] 3, old w0] w' := by
  refine enter (w0 := w0) (hp := [.blk b [.int .i64 car] 3, old w0]) (env := [(0, .agg (cells5 x A c).toArray), (1, .pointer (some ⟨b, 0, none⟩))]) Tryd.func24 rfl 8 rfl (by simp) rfl hw ?_
  refine wc_seq ?_
  refine wc_region ?_
  refine wl_box rfl rfl rfl (by decide) rfl rfl (fun b1 => ?_)
  refine wl_q (q_assign rfl rfl) rfl rfl (by decide) ?_
  refine wl_nil ?_
  refine fq_then ?_
  refine wc_seq ?_
  refine wc_region ?_
  refine wl_q (q_fa (o1 := 4) rfl rfl Fo40_4 rfl) rfl rfl (by decide) ?_
  refine wl_q (q_load rfl rfl Mn38 (reads1 (i := 0) rfl rfl)) rfl rfl (by decide) ?_
  refine wl_q (q_load rfl rfl Mn3 (reads1 (i := 1) rfl rfl)) rfl rfl (by decide) ?_
  refine wl_q (q_call rfl En25 rfl (fun w1 _ => has_calls _ _ _)) rfl rfl (by decide) ?_
  refine wl_q (q_assign rfl rfl) rfl rfl (by decide) ?_
  refine wl_nil ?_
  refine fq_then ?_
  refine wc_ret ?_
  refine fq_ret1 rfl rfl (fun w1 H => ?_)
  exact ⟨rfl, H.sub (List.Sublist.cons _ (List.Sublist.refl _))⟩

theorem first_calls (w0 : World) (it : Nat → List Sx.Item) (fc : Nat → List Value) (ans : Nat → Bool) (n c : Nat) (A : Option Addr) (ad : Addr) (g : Nat) (caps : Array Value) (hA : 0 < n → A = some ad) (hn : n ≤ 9223372036854775807) (hl : ∀ i, (fc i).length = 5)
    (hrd : ∀ k i, i < n → Reads w0 (it k) (ad.add (i * 5)) (fc i)) (heg : Ent Tryd.prog g) (hcl : ∀ i, i < n → ∀ w, HeapOK w0 (it i) w → Calls Tryd.prog g (#[] ++ #[.agg (fc i).toArray] ++ caps) w (fun e w' => e = .returned (.bool (ans i)) ∧ HeapOK w0 (it (i + 1)) w')) (w : World) (hw : HeapOK w0 (it 0) w) :
    Calls Tryd.prog 21 #[.slice A n c, .func (.func g) #[] caps] w fun e w' => e = .returned (.int .i64 (resI ans n)) ∧ HeapOK w0 (it (endI ans n)) w' := by
  refine enter (w0 := w0) (hp := it 0) (env := [(0, .slice A n c), (1, .func (.func g) #[] caps)]) Tryd.func21 rfl 8 rfl (by simp) rfl hw ?_
  refine wc_seq ?_
  refine wc_region ?_
  refine wl_q (q_assign rfl rfl) rfl rfl (by decide) ?_
  refine wl_nil ?_
  refine fq_then ?_
  refine wc_seq ?_
  refine wc_region ?_
  refine wl_q (q_move rfl rfl) rfl rfl (by decide) ?_
  refine wl_q (q_move rfl rfl) rfl rfl (by decide) ?_
  refine wl_call (ι := Unit) (fun _ => .int .i64 (resI ans n)) (fun _ => it (endI ans n)) (fun _ => True) rfl rfl rfl (by decide) En33 rfl (fun w1 hw1 => (index_calls w0 it fc ans n c A ad g caps hA hn hl hrd heg hcl w1 hw1).mono (fun e w' h => ⟨(), trivial, h.1, h.2⟩)) (fun _ _ => ?_)
  refine wl_q (q_assign rfl rfl) rfl rfl (by decide) ?_
  refine wl_nil ?_
  refine fq_then ?_
  refine wc_ret ?_
  refine fq_ret1 rfl rfl (fun w1 H => ?_)
  exact ⟨rfl, H⟩

theorem frees_calls (car from_ : Int) (A : Option Addr) (c : Nat) (l : List PAll.S40) (hc : l.length ≤ c) (w : World) (ad : Addr) (PA : Nat → Option Addr) (PC : Nat → Nat) (F : Facts w A l ad PA PC) : Calls Tryd.prog 13 #[.int .i64 car, .int .i64 from_, .slice A l.length c] w fun e w' => e = .returned (.int .i64 (resI (fun i => hasB (l.getD ((mnI (mxI from_ 0) l.length).toNat + i) PAll.z40).f4 car) (l.length - (mnI (mxI from_ 0) l.length).toNat))) ∧ Below w.heap.size w w' := by
  have hF := F.hn
  have hm0 : 0 ≤ mnI (mxI from_ 0) l.length := by unfold mnI mxI; split <;> split <;> omega
  have hm1 : mnI (mxI from_ 0) l.length ≤ l.length := by unfold mnI mxI; split <;> split <;> omega
  obtain ⟨k, hk⟩ : ∃ k : Nat, mnI (mxI from_ 0) l.length = k := ⟨(mnI (mxI from_ 0) l.length).toNat, by omega⟩
  rw [hk, Int.toNat_natCast]
  rw [hk] at hm0 hm1
  refine enter (w0 := w) (hp := [old w]) (env := [(0, .int .i64 car), (1, .int .i64 from_), (2, .slice A l.length c)]) Tryd.func13 rfl 17 rfl (by simp) rfl (HeapOK.start _) ?_
  refine wc_seq ?_
  refine wc_region ?_
  refine wl_box rfl rfl rfl (by decide) rfl rfl (fun b1 => ?_)
  refine wl_q (q_assign rfl rfl) rfl rfl (by decide) ?_
  refine wl_nil ?_
  refine fq_then ?_
  refine wc_seq ?_
  refine wc_region ?_
  refine wl_q (q_move rfl rfl) rfl rfl (by decide) ?_
  refine wl_q (q_max rfl rfl rfl) rfl rfl (by decide) ?_
  refine wl_q (q_move rfl rfl) rfl rfl (by decide) ?_
  refine wl_q (q_len rfl rfl Tryd.underlying22) rfl rfl (by decide) ?_
  refine wl_q (q_min rfl rfl rfl) rfl rfl (by decide) ?_
  refine wl_eq (t := 11) rfl (show Value.int .i64 (if (l.length : Int) < (if from_ < 0 then 0 else from_) then (l.length : Int) else (if from_ < 0 then 0 else from_)) = .int .i64 (k : Int) from congrArg (Value.int .i64) hk) ?_
  refine wl_q (q_assign rfl rfl) rfl rfl (by decide) ?_
  refine wl_nil ?_
  refine fq_then ?_
  refine wc_seq ?_
  refine wc_region ?_
  refine wl_q (q_move rfl rfl) rfl rfl (by decide) ?_
  refine wl_q (q_move rfl rfl) rfl rfl (by decide) ?_
  refine wl_q (q_slice_lo rfl rfl rfl Tryd.underlying22 Sz40 hm0 hm1) rfl rfl (by decide) ?_
  refine wl_q (q_makeFuncL rfl rfl rfl) rfl rfl (by decide) ?_
  refine wl_call (ι := Unit) (fun _ => .int .i64 (resI (fun i => hasB (l.getD (k + i) PAll.z40).f4 car) (l.length - k))) (fun _ => [.blk b1 [.int .i64 car] 3, old w]) (fun _ => True) rfl rfl rfl (by decide) En21 rfl (fun w1 hw1 => (first_calls w (fun _ => [.blk b1 [.int .i64 car] 3, old w]) (fun i => cells5 (l.getD (k + i) PAll.z40) (PA (k + i)) (PC (k + i))) _ (l.length - k) _ _ (ad.add (k * 5)) 24 #[.pointer (some ⟨b1, 0, none⟩)] (fun h => ?sA) (by omega) (fun _ => rfl) (fun _ i hi => ?sR) En24 (fun i hi w2 hw2 => by rw [app3]; exact frees1_calls w b1 car _ _ _ w2 hw2) w1 hw1).mono (fun e w' h => ⟨(), trivial, h.1, h.2⟩)) (fun _ _ => ?_)
  case sA =>
    rw [if_neg (by simp; omega), F.hA (by omega)]
    rfl
  case sR =>
    refine reads_old (by simp) (fun j u hu => ?_)
    have := F.cell (k + i) (by omega) j u hu
    rw [Sx.add_add] at this ⊢
    rw [Sx.add_add]
    rw [show k * 5 + (i * 5 + j) = (k + i) * 5 + j by omega]
    exact this
  refine wl_q (q_assign rfl rfl) rfl rfl (by decide) ?_
  refine wl_nil ?_
  refine fq_then ?_
  refine wc_ret ?_
  refine fq_ret1 rfl rfl (fun w1 H => ?_)
  exact ⟨rfl, H.toBelow (by simp)⟩

end Go.Proofs.YthpfhglncbkinaaDoor.SF
