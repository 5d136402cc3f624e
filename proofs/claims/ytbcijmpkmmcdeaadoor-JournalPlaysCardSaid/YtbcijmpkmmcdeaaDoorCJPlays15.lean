/- Texts of mine, put together (no statement stands here). -/
import Derived.Test.YtbcijmpkmmcdeaaDoorCJPlays14
import Derived.MapKept
import Derived.Test.YtbcijmpkmmcdeaaDoorCJPlays9
import Derived.Test.YtbcijmpkmmcdeaaDoorCJPlays13
section
namespace Go.Proofs.YtbcijmpkmmcdeaaDoor.SF
open Go.RowKit Go.Sx Go.Proofs.YtbcijmpkmmcdeaaDoor.PAll Go.Proofs.YtbcijmpkmmcdeaaDoorW.PrintWords Go.Proofs.YtbcijmpkmmcdeaaDoorW.PrintLast Go.Proofs.YtbcijmpkmmcdeaaDoorW.PrintMore
open Go.Proofs.YtbcijmpkmmcdeaaDoor.PChk (sumP sum_ev)
set_option linter.unusedVariables false
set_option linter.unusedSimpArgs false
set_option maxRecDepth 100000
theorem C28_at {W : World} {A : Option Addr} {j : Nat} {xs : List S28} {p : S28} (h : Kd.C k28 W A xs.length xs) (hp : xs[j]? = some p) : ∃ ad, A = some ad ∧ ∀ i u, [Value.int .i64 p.f0, Value.int .i64 p.f1][i]? = some u → W.cell? ((ad.add (j * 2)).add i) = some u := by
  obtain ⟨ad, cs, e, hK, hc⟩ := C_at h hp rfl
  obtain rfl := k28_open hK
  exact ⟨ad, e, hc⟩
theorem wrap_id {x : Int} (h : -9223372036854775808 ≤ x ∧ x ≤ 9223372036854775807) : IntKind.i64.wrap x = x := by
  simp only [IntKind.wrap, IntKind.signed, IntKind.bits]; simp; omega
end Go.Proofs.YtbcijmpkmmcdeaaDoor.SF
end
section
namespace Go.Proofs.YtbcijmpkmmcdeaaDoor.SF
open Go.RowKit Go.Sx Go.Proofs.YtbcijmpkmmcdeaaDoor.PAll Go.Proofs.YtbcijmpkmmcdeaaDoorW.PrintWords Go.Proofs.YtbcijmpkmmcdeaaDoorW.PrintLast Go.Proofs.YtbcijmpkmmcdeaaDoorW.PrintMore
open Go.Proofs.YtbcijmpkmmcdeaaDoor.Pure (le puts le_length puts_length puts_range joinF joinF_cons joinF_nil rowB_length rowB sealed sealed_length parts_join gets_puts puts_append puts_cons w64 wu64)
open Go.Proofs.YtbcijmpkmmcdeaaDoor.PChk (chkB pwB knB sumP rowsB)
set_option linter.unusedVariables false
set_option linter.unusedSimpArgs false
theorem parts_len : ∀ (fu : Nat) (l : List Int) (rows : List (List Int)), PAll.partsF fu l = some rows → (∀ x ∈ l, 0 ≤ x) → (rows.map (fun r => r.length + 2)).sum = l.length
  | _, [], rows, h, _ => by
    simp only [PAll.partsF, Option.some.injEq] at h
    subst h; rfl
  | 0, _ :: _, rows, h, _ => by simp [PAll.partsF] at h
  | _ + 1, [_], rows, h, _ => by simp [PAll.partsF] at h
  | fu + 1, a :: b :: l, rows, h, hp => by
    simp only [PAll.partsF] at h
    split at h
    · rename_i hle
      cases hq : PAll.partsF fu (l.drop (a + 256 * b).toNat) with
      | none => rw [hq] at h; cases h
      | some ps =>
        rw [hq] at h
        simp only [Option.map_some, Option.some.injEq] at h
        subst h
        have := parts_len fu _ ps hq (fun x hx => hp x (by simp [List.mem_of_mem_drop hx]))
        simp only [List.map_cons, List.sum_cons, this, List.length_take, List.length_drop, List.length_cons]
        omega
    · cases h
theorem jget_short {l : List Int} (h : l.length ≤ 15) (hb : ∀ x ∈ l, 0 ≤ x) : (jget l).err ≠ 0 := by
  have hf : ∀ rows, PAll.partsF (openF l).1.length (openF l).1 = some rows → gOK rows = false := by
    intro rows hq
    have hl := parts_len _ _ _ hq (fun x hx => hb x ((openF_sub l).2 x hx))
    have hs := (openF_sub l).1
    unfold gOK
    have : formB rows = false := by
      unfold formB
      match rows, hl with
      | [], _ => rfl
      | [_], _ => rfl
      | [_, _], _ => rfl
      | r0 :: r1 :: r2 :: r, hl =>
        simp only [List.map_cons, List.sum_cons] at hl
        have : ¬ (r0.length = 8 ∧ r1.length = 8) := by omega
        by_cases h0 : r0.length = 8
        · have h1 : ¬ r1.length = 8 := fun h => this ⟨h0, h⟩
          simp [h1]
        · simp [h0]
    rw [this]; rfl
  unfold jget jgot
  cases hq : PAll.partsF (openF l).1.length (openF l).1 with
  | none => cases (openF l).2 <;> simp
  | some rows => simp [hf rows hq]; cases (openF l).2 <;> simp
theorem jone_not {i : Int} {l : List Int} {o : JL} (h : (jget l).err ≠ 0) : jone i l o = o := by unfold jone; exact if_neg (fun x => h x.1)
theorem jload_short {a b : List Int} (ha : a.length ≤ 15) (hb : b.length ≤ 15) (ha0 : ∀ x ∈ a, 0 ≤ x) (hb0 : ∀ x ∈ b, 0 ≤ x) : jload a b = ⟨0, 0, [], 0⟩ := by
  unfold jload
  rw [jone_not (jget_short ha ha0), jone_not (jget_short hb hb0)]
structure MayBe (bu ma : Int) (l : List S51) : Prop where
  hbu : 0 ≤ bu ∧ bu ≤ 1048576
  hma : 0 ≤ ma ∧ ma ≤ 1048576
  hl : ∀ p ∈ l, (0 ≤ p.f0 ∧ p.f0 < 64) ∧ 0 ≤ p.f1 ∧ p.f1 ≤ 1048576
  c0 : chkB bu ma 0 l = true
theorem pwB_is {x : Int} (h : pwB x = true) : 0 ≤ x ∧ x ≤ 1048576 := by simpa [pwB] using h
theorem mayBe_of {bu ma cr : Int} {l : List S51} (h : chkB bu ma cr l = true) : MayBe bu ma l := by
  unfold chkB at h
  simp only [Bool.and_eq_true] at h
  obtain ⟨h1, h2, h3, h4, h5⟩ := h
  refine ⟨pwB_is h2, pwB_is h3, fun p hp => ?_, ?_⟩
  · obtain ⟨i, hi, rfl⟩ := List.mem_iff_getElem.1 hp
    have := List.all_eq_true.1 h1 i (List.mem_range.2 hi)
    unfold PChk.rowB at this
    rw [PAll.rd_T51_nat l i hi] at this
    simp only [Bool.and_eq_true] at this
    exact ⟨by simpa [knB] using this.2.1, pwB_is this.2.2⟩
  · unfold chkB
    rw [h1, h2, h3, h5]
    rfl
theorem open_sealed' (l : List Int) : openF (sealed l) = (l, true) := by
  unfold openF
  have h1 : (sealed l).length = l.length + 4 := sealed_length l
  have h2 : (sealed l).take ((sealed l).length - 4) = l := by
    rw [h1, Nat.add_sub_cancel]
    unfold sealed
    rw [List.take_left]
  rw [h2, if_pos ⟨by omega, rfl⟩]
theorem wrapu_small {x : Int} (h : 0 ≤ x ∧ x < 4294967296) : IntKind.u64.wrap x % 2 ^ (8 * 4) = x := by
  rw [wu64 x (by omega)]
  omega
theorem wrapi_small {x : Int} (h : 0 ≤ x ∧ x < 4294967296) : IntKind.i64.wrap x = x := wrap_id (by omega)
theorem flat_puts (l : List S51) : pBs l = puts 4 (l.flatMap fun p => [IntKind.u64.wrap p.f0, IntKind.u64.wrap p.f1]) := by
  induction l with
  | nil => rfl
  | cons p l ih =>
    unfold pBs at ih ⊢
    rw [List.flatMap_cons, List.flatMap_cons, puts_append, ih]
    rfl
theorem flat_len2 (l : List S51) : (l.flatMap fun p => [IntKind.u64.wrap p.f0, IntKind.u64.wrap p.f1]).length = l.length * 2 := by
  induction l with
  | nil => rfl
  | cons p l ih => rw [List.flatMap_cons, List.length_append, ih, List.length_cons]; simp; omega
theorem flat_get2 : ∀ (l : List S51) (j : Nat) (p : S51), l[j]? = some p → (l.flatMap fun p => [IntKind.u64.wrap p.f0, IntKind.u64.wrap p.f1])[j * 2]? = some (IntKind.u64.wrap p.f0) ∧ (l.flatMap fun p => [IntKind.u64.wrap p.f0, IntKind.u64.wrap p.f1])[j * 2 + 1]? = some (IntKind.u64.wrap p.f1)
  | [], j, p, h => by simp at h
  | q :: l, 0, p, h => by cases h; exact ⟨rfl, rfl⟩
  | q :: l, j + 1, p, h => by
    have := flat_get2 l j p (by simpa using h)
    rw [List.flatMap_cons, show (j + 1) * 2 = j * 2 + 1 + 1 by omega]
    exact this
theorem u64_nn (l : List S51) : ∀ x ∈ (l.flatMap fun p => [IntKind.u64.wrap p.f0, IntKind.u64.wrap p.f1]), 0 ≤ x := by
  intro x hx
  obtain ⟨p, _, hp⟩ := List.mem_flatMap.1 hx
  simp only [List.mem_cons, List.not_mem_nil, or_false] at hp
  rcases hp with rfl | rfl <;> exact (u64_range _).1
theorem jrows_form (bu ma : Int) (l : List S51) (seq : Int) : formB (jrows bu ma l seq) = true := by
  unfold formB jrows
  simp only [List.length_cons, List.length_nil, List.getD_cons_zero, List.getD_cons_succ, puts_length, pBs_length]
  simp
theorem gseq_is {bu ma : Int} {l : List S51} {seq : Int} (h : 0 ≤ seq ∧ seq < 18446744073709551616) : gSeq (jrows bu ma l seq) = seq := by
  have e : gN 0 (jrows bu ma l seq) = gets 8 ([seq] : List Int).length (puts 8 [seq]) := rfl
  unfold gSeq
  rw [e, gets_puts 8 [seq] (fun x hx => by obtain rfl := List.mem_singleton.1 hx; exact h.1)]
  show seq % 2 ^ (8 * 8) = seq
  omega
theorem gnum_is {bu ma : Int} {l : List S51} {seq : Int} : gN 1 (jrows bu ma l seq) = [IntKind.u64.wrap bu % 2 ^ (8 * 4), IntKind.u64.wrap ma % 2 ^ (8 * 4)] := by
  have e : gN 1 (jrows bu ma l seq) = gets 4 ([IntKind.u64.wrap bu, IntKind.u64.wrap ma] : List Int).length (puts 4 [IntKind.u64.wrap bu, IntKind.u64.wrap ma]) := rfl
  rw [e, gets_puts 4 _ (fun x hx => by
    simp only [List.mem_cons, List.not_mem_nil, or_false] at hx
    rcases hx with rfl | rfl <;> exact (u64_range _).1)]
  rfl
theorem gps_is {bu ma : Int} {l : List S51} {seq : Int} (h : ∀ p ∈ l, (0 ≤ p.f0 ∧ p.f0 < 64) ∧ 0 ≤ p.f1 ∧ p.f1 ≤ 1048576) : gPs (jrows bu ma l seq) = l := by
  have e : gN 2 (jrows bu ma l seq) = (l.flatMap fun p => [IntKind.u64.wrap p.f0, IntKind.u64.wrap p.f1]).map (fun x => x % 2 ^ (8 * 4)) := by
    have e1 : gN 2 (jrows bu ma l seq) = gets 4 ((pBs l).length / 8 * 2) (pBs l) := rfl
    rw [e1, pBs_length, show 8 * l.length / 8 * 2 = (l.flatMap fun p => [IntKind.u64.wrap p.f0, IntKind.u64.wrap p.f1]).length by rw [flat_len2]; omega, flat_puts, gets_puts 4 _ (u64_nn l)]
  have e2 : (jrows bu ma l seq).getD 2 [] = pBs l := rfl
  apply List.ext_getElem?
  intro j
  unfold gPs
  rw [List.getElem?_map, e2, pBs_length, show 8 * l.length / 8 = l.length by omega]
  by_cases hj : j < l.length
  · rw [List.getElem?_range hj, List.getElem?_eq_getElem hj]
    have hp := h _ (List.getElem_mem hj)
    have hg := flat_get2 l j _ (List.getElem?_eq_getElem hj)
    have k0 : (gN 2 (jrows bu ma l seq)).getD (j * 2) 0 = IntKind.u64.wrap (l[j]).f0 % 2 ^ (8 * 4) := by
      rw [e, List.getD_eq_getElem?_getD, List.getElem?_map, hg.1]; rfl
    have k1 : (gN 2 (jrows bu ma l seq)).getD (j * 2 + 1) 0 = IntKind.u64.wrap (l[j]).f1 % 2 ^ (8 * 4) := by
      rw [e, List.getD_eq_getElem?_getD, List.getElem?_map, hg.2]; rfl
    show some (gP (jrows bu ma l seq) j) = some l[j]
    unfold gP
    rw [k0, k1, wrapu_small (by omega), wrapu_small (by omega), wrapi_small (by omega), wrapi_small (by omega)]
  · rw [List.getElem?_eq_none (by simp; omega), List.getElem?_eq_none (by omega)]
    rfl
theorem jget_jput {bu ma : Int} {l : List S51} {seq : Int} (hm : MayBe bu ma l) (hl : l.length ≤ 1000) (hs : 0 ≤ seq ∧ seq < 18446744073709551616) : jget (jput bu ma l seq) = ⟨bu, ma, l, seq, 0⟩ := by
  have h1 : PAll.partsF (joinF (jrows bu ma l seq)).length (joinF (jrows bu ma l seq)) = some (jrows bu ma l seq) := parts_join _ (fun r hr => Nat.le_trans (jrows_length _ _ _ _ hl r hr) (by decide)) _ (Nat.le_refl _)
  unfold jget jput
  rw [open_sealed', h1]
  unfold jgot
  have hb : gBud (jrows bu ma l seq) = bu := by
    unfold gBud
    rw [gnum_is]
    show IntKind.i64.wrap (IntKind.u64.wrap bu % 2 ^ (8 * 4)) = bu
    have := hm.hbu
    rw [wrapu_small (by omega), wrapi_small (by omega)]
  have hma : gMar (jrows bu ma l seq) = ma := by
    unfold gMar
    rw [gnum_is]
    show IntKind.i64.wrap (IntKind.u64.wrap ma % 2 ^ (8 * 4)) = ma
    have := hm.hma
    rw [wrapu_small (by omega), wrapi_small (by omega)]
  have hok : gOK (jrows bu ma l seq) = true := by
    unfold gOK
    rw [jrows_form, hb, hma, gps_is hm.hl, hm.c0]; rfl
  simp [hok, hb, hma, gps_is hm.hl, gseq_is hs]
end Go.Proofs.YtbcijmpkmmcdeaaDoor.SF
end
section
namespace Go.Sx
open Go.RowKit
set_option linter.unusedVariables false
set_option linter.unusedSimpArgs false
def Blk (w : World) (b : Nat) (cs : List Value) (T : TypeId) : Prop := w.heap[b]? = some (.cells cs.toArray T (0, 0))
theorem Blk.below {w w' : World} {b : Nat} {cs : List Value} {T : TypeId} (h : Blk w b cs T) (hb : Below w.heap.size w w') : Blk w' b cs T := (hb.block b (Array.getElem?_eq_some_iff.1 h).1).trans h
theorem _root_.Go.RowKit.Below.next {w w1 w2 : World} (h : Below w.heap.size w w1) (h2 : Below w1.heap.size w1 w2) : Below w.heap.size w w2 := h.trans (h2.mono h.size)
def CellsAt (w : World) (ad : Addr) (cs : List Value) : Prop := ∀ (j : Nat) (u : Value), cs[j]? = some u → w.cell? (ad.add j) = some u
theorem CellsAt.below {w w' : World} {ad : Addr} {cs : List Value} (h : CellsAt w ad cs) (hb : Below w.heap.size w w') : CellsAt w' ad cs := fun j u hu => by
  have hc := h j u hu
  rw [hb.cell (p := ad.add j) (block_lt_of_cell hc)]
  exact hc
theorem CellsAt.one {w : World} {ad : Addr} {k j : Nat} {cs : List Value} {u : Value} (h : CellsAt w (ad.add k) cs) (hu : cs[j]? = some u) : w.cell? (ad.add (k + j)) = some u := by
  have := h j u hu
  rwa [add_add] at this
section
variable {P : Program} {ops : Array Oper} {Q : Exit → Act → World → Prop} {w0 : World} {N : Fr} {l : List Oper} {env : Env} {hp : List Item} {o : Oper}
theorem reads_blk {b off : Nat} {cs : List Value} {T : TypeId} {v : Value} (hm : old w0 ∈ hp) (h : Blk w0 b cs T) (hc : cs[off]? = some v) : Reads w0 hp ⟨b, off, none⟩ [v] := reads_old hm (cell_zero (by rw [cell_of_row w0 b off cs.toArray T (0, 0) h]; simpa using hc))
theorem reads_blkA {b : Nat} {cs : List Value} {T : TypeId} (hm : old w0 ∈ hp) (h : Blk w0 b cs T) : Reads w0 hp ⟨b, 0, none⟩ cs := reads_old hm (fun j u hu => by
  rw [addr_add, cell_of_row w0 b (0 + j) cs.toArray T (0, 0) h, Nat.zero_add]
  simpa using hu)
theorem wc_ground {c : Code} (k : ∀ wn, HeapOK w0 hp wn → WC P c Q wn N env [old wn]) : WC P c Q w0 N env hp := fun a w h => k w h.heap a w ⟨h.size, h.defers, h.env, HeapOK.start w⟩
theorem wl_ground (k : ∀ wn, HeapOK w0 hp wn → WL P ops Q wn N l env [old wn]) : WL P ops Q w0 N l env hp := fun a w h => k w h.heap a w ⟨h.size, h.defers, h.env, HeapOK.start w⟩
theorem fq_ground {e : Exit} (k : ∀ wn, HeapOK w0 hp wn → FQ Q e wn N env [old wn]) : FQ Q e w0 N env hp := fun a w h => k w h.heap a w ⟨h.size, h.defers, h.env, HeapOK.start w⟩
end
end Go.Sx
end
section
namespace Go.Sx
open Go.RowKit Go.Proofs.YtbcijmpkmmcdeaaDoorW.PrintWords
set_option linter.unusedVariables false
set_option linter.unusedSimpArgs false
section
variable {P : Program} {ops : Array Oper} {Q : Exit → Act → World → Prop} {w0 : World} {N : Fr} {l : List Oper} {env : Env} {hp : List Item} {o : Oper}
theorem q_bytesStr {s t e : TypeId} {x : Operand} {A : Option Addr} {n c : Nat} {xs : List Int} (ho : o.op = .convert s t x) (hx : evE x env = some (.slice A n c)) (hs : P.underlying s = some (.slice e)) (he : P.underlying e = some (.int .u8)) (ht : P.underlying t = some .string) (h : ∀ w, HeapOK w0 hp w → (Kd.int .u8).C w A n xs) : OpQ P o env w0 hp (.string (strOfNums xs)) := q_run fun a w hev hh => by
  unfold execOp
  simp only [ho, ev_of hev hx, Sem.run_bind, Kd.C_string hs he ht (h w hh)]
  rfl
end
end Go.Sx
end
section
namespace Go.Proofs.YtbcijmpkmmcdeaaDoor.PAll
open Go.RowKit Go.Proofs.YtbcijmpkmmcdeaaDoorW.PrintWords Go.Proofs.YtbcijmpkmmcdeaaDoorW.PrintLast Go.Proofs.YtbcijmpkmmcdeaaDoorW.PrintMore
attribute [local go_sem] max2_int min2_int max_two min_two max_three min_three max_four min_four
set_option linter.unusedVariables false
set_option linter.unusedSimpArgs false
def paternosterlaw16_few.f (a0_0 : Int) (a0_1 : Int) (a0_2 : Int) (l0_3 : List (S51)) : Option (Bool) := some (decide ((l0_3.length : Int) ≤ 80))
set_option maxHeartbeats 8000000 in
set_option maxRecDepth 100000 in
theorem paternosterlaw16_few.calls (a0_0 : Int) (a0_1 : Int) (a0_2 : Int) (A0_3 : Option Addr) (c0_3 : Nat) (l0_3 : List (S51)) (r : Bool) (w : World) (hr0_3 : Kd.C k51 w A0_3 l0_3.length l0_3) (hc0_3 : l0_3.length ≤ c0_3) (h : paternosterlaw16_few.f a0_0 a0_1 a0_2 l0_3 = some r) :
    Calls Tryd.prog 22 #[.agg #[.int .i64 a0_0, .int .i64 a0_1, .int .i64 a0_2, .slice A0_3 l0_3.length c0_3]] w fun e w' => e = .returned (.bool r) ∧ Below w.heap.size w w' := by
  have hu32 := Tryd.underlying32
  have HR0_3 := Aside0.mk hr0_3
  have HC0_3 := Aside0.mk hc0_3
  clear hr0_3 hc0_3
  have HB := Aside0.mk (Below.refl w.heap.size w)
  have H : (some (decide ((l0_3.length : Int) ≤ 80))) = some r := h
  clear h
  obtain rfl := Option.some.inj H
  go_enter Tryd.func22, Tryd.ntmps22
  go_wp2_with (first | ((with_reducible refine gate_dst (N := 1) rfl ?_); refine box_event ?hg (N := 1) ?hd (cs := #[.int .i64 a0_0, .int .i64 a0_1, .int .i64 a0_2, .slice A0_3 l0_3.length c0_3]) (t := 32) ?hr ?_; (case hd => rfl); (case hg => rfl); (case hr => first | (go_simp; done) | (go_simp; rfl)); intro gb224 hg w2 hbox hb; have n0_ := Aside0.mk (below_step (by repeat (first | (with_reducible first | exact HB.out | apply below_alloc | apply pw_below_drewN | apply below_drew1) | exact HB.out)) hb); have n1_ := Aside0.mk (hbox); have n2_ := Aside0.mk ((by rw [hg]; exact (below_size (by repeat (first | (with_reducible first | exact HB.out | apply below_alloc | apply pw_below_drewN | apply below_drew1) | exact HB.out))) : w.heap.size ≤ gb224)); have n3_ := Aside0.mk ((by rw [hg]; exact (below_size (by repeat (first | (with_reducible first | exact HB.out | apply below_alloc | apply pw_below_drewN | apply below_drew1) | exact HB.out))) : w.heap.size ≤ gb224)); clear HB; have HB := n0_; have BK224 := n1_; have GW224 := n2_; have GE224 := n3_; clear n0_ n1_ n2_ n3_; clear hb hbox hg; have hcz3_0 : w2.cell? ⟨gb224, 0, none⟩ = some (.int .i64 a0_0) := (blk_cell BK224.out 0).trans rfl; have hcz3_1 : w2.cell? ⟨gb224, 1, none⟩ = some (.int .i64 a0_1) := (blk_cell BK224.out 1).trans rfl; have hcz3_2 : w2.cell? ⟨gb224, 2, none⟩ = some (.int .i64 a0_2) := (blk_cell BK224.out 2).trans rfl; have hcz3_3 : w2.cell? ⟨gb224, 3, none⟩ = some (.slice A0_3 l0_3.length c0_3) := (blk_cell BK224.out 3).trans rfl; have hfz3_0 := blk_frozen BK224.out 0; have hfz3_1 := blk_frozen BK224.out 1; have hfz3_2 := blk_frozen BK224.out 2; have hfz3_3 := blk_frozen BK224.out 3))
  go_ret
  exact ⟨by first | rfl | (simp [errW_none, errW_some] <;> rfl) | (simp [*, errW_none, errW_some] <;> rfl), by repeat (first | (with_reducible first | exact HB.out | apply below_alloc | apply pw_below_drewN | apply below_drew1 | refine below_set ?_ GE224.out) | exact HB.out)⟩
end Go.Proofs.YtbcijmpkmmcdeaaDoor.PAll
end
section
namespace Go.Proofs.YtbcijmpkmmcdeaaDoor.SF
open Go.RowKit Go.Sx Go.Proofs.YtbcijmpkmmcdeaaDoor.PAll Go.Proofs.YtbcijmpkmmcdeaaDoorW.PrintWords Go.Proofs.YtbcijmpkmmcdeaaDoorW.PrintLast Go.Proofs.YtbcijmpkmmcdeaaDoorW.PrintMore
set_option linter.unusedVariables false
set_option linter.unusedSimpArgs false
def RowP (w : World) (q : Gh) (l : List S51) : Prop := l.length ≤ q.2 ∧ Kd.C k51 w q.1 l.length l
theorem RowP.below {w w' : World} {q : Gh} {l : List S51} (h : RowP w q l) (hb : Below w.heap.size w w') : RowP w' q l := ⟨h.1, Kd.C_below h.2 hb⟩
def RowI (w : World) (q : Gh) (l : List Int) : Prop := l.length ≤ q.2 ∧ Kd.C (Kd.int .i64) w q.1 l.length l
theorem RowI.below {w w' : World} {q : Gh} {l : List Int} (h : RowI w q l) (hb : Below w.heap.size w w') : RowI w' q l := ⟨h.1, Kd.C_below h.2 hb⟩
theorem jps_len {l : List Int} (h : l.length ≤ 8000) (hb : ∀ x ∈ l, 0 ≤ x) : (jget l).ps.length ≤ 1000 := by
  have hf : ∀ rows, PAll.partsF (openF l).1.length (openF l).1 = some rows → (gPs rows).length ≤ 1000 := by
    intro rows hq
    have hs := (openF_sub l).1
    unfold gPs
    rw [List.length_map, List.length_range]
    cases h2 : rows[2]? with
    | none => rw [List.getD_eq_getElem?_getD, h2]; decide
    | some r =>
      have := (parts_sub _ _ _ hq r (List.mem_of_getElem? h2)).1
      rw [List.getD_eq_getElem?_getD, h2]
      show r.length / 8 ≤ 1000
      omega
  unfold jget jgot
  cases hq : PAll.partsF (openF l).1.length (openF l).1 with
  | none => cases (openF l).2 <;> simp
  | some rows =>
    have := hf rows hq
    cases (openF l).2 <;> simp
    split <;> simp [this]
theorem jone_len {i : Int} {l : List Int} {o : JL} (h : Bytes l) (ho : o.ps.length ≤ 1000) : (jone i l o).ps.length ≤ 1000 := by
  unfold jone
  split
  · exact jps_len h.1 (fun x hx => (h.2 x hx).1)
  · exact ho
theorem jload_len {a b : List Int} (ha : Bytes a) (hb : Bytes b) : (jload a b).ps.length ≤ 1000 := jone_len hb (jone_len ha (Nat.zero_le _))
theorem FromK (pa pb : Gh) (a b : List Int) (w : World) (ha : RowC w pa a) (hb : RowC w pb b) (hal : a.length < 17592186044416) (hbl : b.length < 17592186044416) :
    Calls Tryd.prog 16 #[.slice pa.1 a.length pa.2, .slice pb.1 b.length pb.2] w fun e w' => ∃ i : Gh × Gh, Jn.ok w' ⟨a, b, 0, [], false⟩ i.1 i.2 (none, 0) ∧ e = .returned (.agg (Jn.cells ⟨a, b, 0, [], false⟩ i.1 i.2 (none, 0)).toArray) ∧ Below w.heap.size w w' :=
  (From_calls pa pb a b w ha hb hal hbl).mono (fun e w' ⟨p0, p1, h1, h2, h3⟩ => ⟨(p0, p1), h2, h1, h3⟩)
theorem LoadK (J : Jn) (p0 p1 p2 : Gh) (w : World) (hJ : Jn.ok w J p0 p1 p2) (hB0 : Bytes J.s0) (hB1 : Bytes J.s1) (hh : Half w) :
    Calls Tryd.prog 28 #[.agg (J.cells p0 p1 p2).toArray] w fun e w' => ∃ i : Gh, RowP w' i (jload J.s0 J.s1).ps ∧ e = .returned (.tuple #[.agg #[.int .i64 (jload J.s0 J.s1).bud, .int .i64 (jload J.s0 J.s1).mar, .int .i64 0, .slice i.1 (jload J.s0 J.s1).ps.length i.2], .int .u64 (jload J.s0 J.s1).seq, .bool (decide (0 < (jload J.s0 J.s1).seq))]) ∧ Below w.heap.size w w' := by
  have hn := jload_len hB0 hB1
  exact (Load_calls J p0 p1 p2 w hJ hB0 hB1 hh).mono (fun e w' ⟨i, h1, h2⟩ => ⟨i, ⟨own_cap (h2.get (i := 0) rfl), C51_of_own (h2.get (i := 0) rfl) (by omega)⟩, h1, h2.toBelow (by simp)⟩)
theorem WriteK (J : Jn) (p0 p1 p2 : Gh) (bu ma cr : Int) (q : Gh) (l : List S51) (w : World) (hJ : Jn.ok w J p0 p1 p2) (hB0 : Bytes J.s0) (hB1 : Bytes J.s1) (hr : RowP w q l) (hl : l.length ≤ 1000) (hh : Half w) :
    Calls Tryd.prog 33 #[.agg (J.cells p0 p1 p2).toArray, .agg #[.int .i64 bu, .int .i64 ma, .int .i64 cr, .slice q.1 l.length q.2]] w fun e w' => ∃ i : Gh × Gh × Gh, Jn.ok w' (J.write bu ma l) i.1 i.2.1 i.2.2 ∧ e = .returned (.agg ((J.write bu ma l).cells i.1 i.2.1 i.2.2).toArray) ∧ Below w.heap.size w w' :=
  (Write_calls J p0 p1 p2 bu ma cr q.1 q.2 l w hJ hB0 hB1 hr.2 hr.1 hl hh).mono (fun e w' ⟨q0, q1, q2, h1, h2, h3⟩ => ⟨(q0, q1, q2), h2, h1, h3⟩)
theorem TearK (J : Jn) (n : Int) (p0 p1 p2 : Gh) (w : World) (hJ : Jn.ok w J p0 p1 p2) (hL : J.last = 0 ∨ J.last = 1) (h0 : J.s0.length < 17592186044416) (h1 : J.s1.length < 17592186044416) (h2 : J.was.length < 17592186044416) :
    Calls Tryd.prog 31 #[.agg (J.cells p0 p1 p2).toArray, .int .i64 n] w fun e w' => ∃ i : Gh × Gh, Jn.ok w' (J.tear n) i.1 i.2 p2 ∧ e = .returned (.agg ((J.tear n).cells i.1 i.2 p2).toArray) ∧ Below w.heap.size w w' := by
  obtain ⟨s0, s1, last, was, wrote⟩ := J
  simp only at hL h0 h1 h2
  rcases hL with rfl | rfl
  · exact (Tear0_calls s0 s1 was wrote n p0 p1 p2 w hJ h0 h1 h2).mono (fun e w' ⟨q0, q1, h1, h2, h3⟩ => ⟨(q0, q1), h2, h1, h3⟩)
  · exact (Tear1_calls s0 s1 was wrote n p0 p1 p2 w hJ h0 h1 h2).mono (fun e w' ⟨q0, q1, h1, h2, h3⟩ => ⟨(q0, q1), h2, h1, h3⟩)
theorem SlotsK (J : Jn) (p0 p1 p2 : Gh) (w : World) (hJ : Jn.ok w J p0 p1 p2) (h0 : J.s0.length < 17592186044416) (h1 : J.s1.length < 17592186044416) :
    Calls Tryd.prog 30 #[.agg (J.cells p0 p1 p2).toArray] w fun e w' => ∃ i : Nat × Gh × Gh, (Blk w' i.1 [.slice i.2.1.1 J.s0.length i.2.1.2, .slice i.2.2.1 J.s1.length i.2.2.2] 22 ∧ RowC w' i.2.1 J.s0 ∧ RowC w' i.2.2 J.s1) ∧ e = .returned (.slice (some ⟨i.1, 0, none⟩) 2 2) ∧ Below w.heap.size w w' :=
  (Slots_calls J p0 p1 p2 w hJ h0 h1).mono (fun e w' ⟨b, q0, q1, h1, h2, h3, h4, h5⟩ => ⟨(b, q0, q1), ⟨h2, h3, h4⟩, h1, h5⟩)
theorem few16_calls (a b c : Int) (q : Gh) (l : List S51) (w : World) (hr : RowP w q l) : Calls Tryd.prog 22 #[.agg #[.int .i64 a, .int .i64 b, .int .i64 c, .slice q.1 l.length q.2]] w fun e w' => e = .returned (.bool (decide (l.length ≤ 80))) ∧ Below w.heap.size w w' := by
  refine paternosterlaw16_few.calls a b c q.1 q.2 l _ w hr.2 hr.1 ?_
  unfold paternosterlaw16_few.f
  congr 1
  simp
  omega
theorem RowC.none (w : World) (q : Gh) : RowC w q [] := ⟨Nat.zero_le _, rfl, by decide, fun h => absurd h (by decide)⟩
theorem RowP.at {w : World} {q : Gh} {l : List S51} {j : Nat} {p : S51} (h : RowP w q l) (hp : l[j]? = some p) : ∃ ad, q.1 = some ad ∧ CellsAt w (ad.add (j * 2)) [.int .i64 p.f0, .int .i64 p.f1] := C51_at h.2 hp
theorem RowI.at {w : World} {q : Gh} {l : List Int} {j : Nat} {x : Int} (h : RowI w q l) (hp : l[j]? = some x) : ∃ ad, q.1 = some ad ∧ w.cell? (ad.add (j * 1)) = some (.int .i64 x) := by
  obtain ⟨ad, cs, e, hK, hc⟩ := C_at h.2 hp rfl
  obtain rfl : cs = [.int .i64 x] := hK
  have := hc 0 _ rfl
  rw [add_zero] at this
  exact ⟨ad, e, this⟩
theorem FromG {w : World} : Calls Tryd.prog 16 #[.slice none 0 0, .slice none 0 0] w fun e w' => ∃ i : Gh × Gh, e = .returned (.agg (Jn.cells ⟨[], [], 0, [], false⟩ i.1 i.2 (none, 0)).toArray) ∧ Below w.heap.size w w' :=
  (FromK (none, 0) (none, 0) [] [] w (RowC.none w _) (RowC.none w _) (by decide) (by decide)).mono (fun e w' ⟨i, _, h1, h2⟩ => ⟨i, h1, h2⟩)
def J0 : Jn := ⟨[], [], 0, [], false⟩
theorem J0_ok (w : World) (p0 p1 p2 : Gh) : Jn.ok w J0 p0 p1 p2 := ⟨RowC.none w _, RowC.none w _, RowC.none w _⟩
theorem Bytes_nil : Bytes [] := ⟨Nat.zero_le _, fun x hx => by cases hx⟩
theorem jput_bytes {bu ma seq : Int} {l : List S51} (h : l.length ≤ 900) : Bytes (jput bu ma l seq) := by
  refine ⟨by rw [jput_length]; omega, Go.Proofs.YtbcijmpkmmcdeaaDoor.Pure.sealed_range _ (Go.Proofs.YtbcijmpkmmcdeaaDoor.Pure.joinF_range _ (jrows_range _ _ _ _))⟩
theorem u8_wf {x : Int} (h : (Lit.int .u8 x).wf = true) : 0 ≤ x ∧ x ≤ 255 := by simpa [Lit.wf, IntKind.min, IntKind.max, IntKind.signed, IntKind.bits] using h
theorem bytes_wf {l : List Int} (h : ∀ x ∈ l, (Lit.int .u8 x).wf = true) : ∀ x ∈ l, 0 ≤ x ∧ x ≤ 255 := fun x hx => u8_wf (h x hx)
theorem load_put1 {a : List Int} {bu ma : Int} {l : List S51} (ha : a.length ≤ 15) (ha0 : ∀ x ∈ a, 0 ≤ x) (hm : MayBe bu ma l) (hl : l.length ≤ 900) : jload a (jput bu ma l 1) = ⟨bu, ma, l, 1⟩ := by
  unfold jload
  rw [jone_not (jget_short ha ha0)]
  unfold jone
  rw [jget_jput hm (by omega) (by decide)]
  rfl
end Go.Proofs.YtbcijmpkmmcdeaaDoor.SF
end
section
namespace Go.Proofs.YtbcijmpkmmcdeaaDoor.SF
open Go.RowKit Go.Sx Go.Proofs.YtbcijmpkmmcdeaaDoor.PAll Go.Proofs.YtbcijmpkmmcdeaaDoorW.PrintWords Go.Proofs.YtbcijmpkmmcdeaaDoorW.PrintLast Go.Proofs.YtbcijmpkmmcdeaaDoorW.PrintMore
set_option linter.unusedVariables false
set_option linter.unusedSimpArgs false
set_option maxRecDepth 100000
theorem k51_blk {w : World} {b : Nat} {T : TypeId} {p : S51} (h : w.heap[b]? = some (.cells #[.int .i64 p.f0, .int .i64 p.f1] T (0, 0))) : Kd.C k51 w (some ⟨b, 0, none⟩) 1 [p] := by
  refine ⟨rfl, by decide, fun _ => ⟨_, rfl, fun j q hq => ?_⟩⟩
  cases j with
  | zero =>
    cases hq
    refine ⟨_, rfl, k51_mk w p, fun i u hu => ?_⟩
    rw [addr_add, cell_of_row w b _ _ T (0, 0) h]
    show #[Value.int .i64 p.f0, Value.int .i64 p.f1][0 + (0 * 2 + i)]? = some u
    simpa using hu
  | succ j => simp at hq
def l34 : List S51 := [⟨3, 4⟩]
theorem may34 : MayBe 9 0 l34 := mayBe_of (cr := 0) (by decide)
theorem cut_bytes : Bytes ((jput 9 0 l34 1).take 5) := ⟨by rw [List.length_take]; omega, fun x hx => (jput_bytes (by decide)).2 x (List.mem_of_mem_take hx)⟩
theorem awake_tear : (⟨[], jput 9 0 l34 1, 1, [], true⟩ : Jn).tear 5 = ⟨[], (jput 9 0 l34 1).take 5, 1, [], true⟩ := by
  unfold Jn.tear
  rw [if_neg (fun h => h.elim (fun h => by cases h) (fun h => by
    have h : (jput 9 0 l34 1).length ≤ 5 := h
    rw [jput_length] at h
    exact absurd h (by decide)))]
  show (⟨[], (jput 9 0 l34 1).take 5 ++ ([] : List Int).drop _, 1, [], true⟩ : Jn) = _
  rw [List.drop_nil, List.append_nil]
theorem awake_load : jload [] (jput 9 0 l34 1) = ⟨9, 0, l34, 1⟩ := load_put1 (by decide) (fun x hx => by cases hx) may34 (by decide)
theorem awake_cut : jload [] ((jput 9 0 l34 1).take 5) = ⟨0, 0, [], 0⟩ := jload_short (by decide) (by rw [List.length_take]; omega) (fun x hx => by cases hx) (fun x hx => (cut_bytes.2 x hx).1)
set_option maxHeartbeats 1000000 in
theorem awake16_calls (w : World) (hh : Half w) : Calls Tryd.prog 21 #[] w fun e w' => e = .returned (.bool true) ∧ Below w.heap.size w w' := by
  refine enter (w0 := w) (hp := [old w]) (env := []) Tryd.func21 rfl 62 rfl (by simp) rfl (HeapOK.start _) ?_
  refine wc_seq ?_
  refine wc_region ?_
  refine wl_q (q_assign rfl rfl) rfl rfl (by decide) ?_
  refine wl_nil ?_
  refine fq_then ?_
  refine wc_seq ?_
  refine wc_region ?_
  refine wl_q (q_build rfl rfl (built_of Zr51 Pl51 (by simp only [fillL, List.map_cons, List.map_nil, Value.cells, List.getElem?_cons_zero, List.getElem?_cons_succ, List.length_cons, List.length_nil, Nat.reduceAdd, Nat.reduceLeDiff, Nat.le_refl, and_self, and_true, true_and, if_true, Nat.zero_add, spl, List.take_succ_cons, List.take_zero, List.take_nil, List.drop_succ_cons, List.drop_zero, List.drop_nil, List.nil_append, List.cons_append, List.append_nil]; rfl))) rfl rfl (by decide) ?_
  refine wl_buildSlice rfl rfl rfl (by decide) rfl Tryd.underlying30 (built_one Sz51 (by decide) Zs51 (by decide) rfl rfl) (fun b1 => ?_)
  refine wl_q (q_build rfl rfl (built_of Zr32 Pl32 (by simp only [fillL, List.map_cons, List.map_nil, Value.cells, List.getElem?_cons_zero, List.getElem?_cons_succ, List.length_cons, List.length_nil, Nat.reduceAdd, Nat.reduceLeDiff, Nat.le_refl, and_self, and_true, true_and, if_true, Nat.zero_add, spl, List.take_succ_cons, List.take_zero, List.take_nil, List.drop_succ_cons, List.drop_zero, List.drop_nil, List.nil_append, List.cons_append, List.append_nil]; rfl))) rfl rfl (by decide) ?_
  refine wl_alloc rfl rfl rfl (by decide) Zr32 (fun b2 => ?_)
  refine wl_store (i := 0) rfl rfl rfl rfl rfl rfl Sz32 rfl rfl (by simp) (by simp [Value.oneCell']) (by first | (simp only [List.take_succ_cons, List.take_zero, List.take_nil, List.drop_succ_cons, List.drop_zero, List.drop_nil, List.nil_append, List.cons_append, List.append_nil, List.length_cons, List.length_nil, Nat.reduceAdd, Nat.zero_add]; rfl) | rfl) (by first | (simp only [List.set_cons_zero, List.set_cons_succ]; rfl) | rfl) ?_
  refine wl_nil ?_
  refine fq_then ?_
  refine wc_seq ?_
  refine wc_any Fol (any_drawG (ι := (Gh × Gh)) 5 0 [(2, fun X => [Sx.Item.own 0 5 1 (.slice (X 2).1.1 (jput 9 0 l34 1).length (X 2).1.2) (jput 9 0 l34 1).length (nums .u8 (jput 9 0 l34 1))]), (3, fun X => [Sx.Item.blk (X 3).1.2 _ 38]), (4, fun X => [Sx.Item.blk (X 3).1.2 (Jn.cells (⟨[], jput 9 0 l34 1, 1, [], true⟩ : Jn) (X 0).1 (X 2).1 (X 0).2) 38])] [⟨[], [], []⟩, ⟨[], [], []⟩, ⟨[], [], [0]⟩, ⟨[], [], []⟩, ⟨[3], [], [0, 2, 3]⟩] (by kernel_rfl) (ChainG.ope (fun (X : Nat → (Gh × Gh)) => .agg (Jn.cells J0 (X 0).1 (X 0).2 (none, 0)).toArray) [] [] (fun X => oe_call rfl En16 rfl (fun R w1 hw1 => FromG.mono (fun e w' ⟨i, h1, h2⟩ => ⟨i, h1, hw1.below h2⟩))) rfl rfl (fun X Y h0 h => ⟨by first | rfl | (show (.agg (Jn.cells J0 (X 0).1 (X 0).2 (none, 0)).toArray : Value) = .agg (Jn.cells J0 (Y 0).1 (Y 0).2 (none, 0)).toArray; simp only [h0]), by first | rfl | simp only [h0]⟩) (ChainG.yield [] [] (fun X => q_loadA rfl rfl Mn32 Sz32 rfl (readsAll (i := 0) rfl)) rfl rfl (fun _ => rfl) (fun _ _ => rfl) (fun X Y h0 h => ⟨by first | rfl | simp only [h0], by first | rfl | simp only [h0]⟩) (ChainG.ope (fun (X : Nat → (Gh × Gh)) => .agg (Jn.cells (⟨[], jput 9 0 l34 1, 1, [], true⟩ : Jn) (X 0).1 (X 2).1 (X 0).2).toArray) [] [0] (fun X => oe_call rfl En33 rfl (fun R w1 hw1 => (Write1_calls J0 (X 0).1 (X 0).2 (none, 0) 9 0 0 (some ⟨b1, 0, none⟩) 1 l34 w1 (J0_ok _ _ _ _) Bytes_nil Bytes_nil (k51_blk (p := ⟨3, 4⟩) (hw1.frame.get (i := 1) rfl)) (by decide) (by decide) (hh.keep (hw1.toBelow (by simp))) (by decide)).mono (fun e w' ⟨i, h1, h2⟩ => ⟨(i, i), h1, hw1.lift1 h2⟩))) rfl rfl (fun X Y h0 h => ⟨by first | rfl | (show (.agg (Jn.cells (⟨[], jput 9 0 l34 1, 1, [], true⟩ : Jn) (X 0).1 (X 2).1 (X 0).2).toArray : Value) = .agg (Jn.cells (⟨[], jput 9 0 l34 1, 1, [], true⟩ : Jn) (Y 0).1 (Y 2).1 (Y 0).2).toArray; simp only [h0, h 0 (by decide)]), by first | rfl | (show ([Sx.Item.own 0 5 1 (.slice (X 2).1.1 (jput 9 0 l34 1).length (X 2).1.2) (jput 9 0 l34 1).length (nums .u8 (jput 9 0 l34 1))] : List Sx.Item) = [Sx.Item.own 0 5 1 (.slice (Y 2).1.1 (jput 9 0 l34 1).length (Y 2).1.2) (jput 9 0 l34 1).length (nums .u8 (jput 9 0 l34 1))]; simp only [h0, h 0 (by decide)])⟩) (ChainG.mkG (fun x => x.1.2) (fun k => ((none, k), (none, 0))) (fun _ => rfl) (fun b => .pointer (some ⟨b, 0, none⟩)) [] (fun X => om_alloc rfl Zr38) rfl rfl (fun _ => rfl) (fun _ _ => rfl) (fun X Y h0 h => ⟨by first | rfl | simp only [h0], by first | rfl | (show ([Sx.Item.blk (X 3).1.2 _ 38] : List Sx.Item) = [Sx.Item.blk (Y 3).1.2 _ 38]; simp only [h0])⟩) (ChainG.store [3] [0, 2, 3] (fun X => oe_storeAt (X' := [Sx.Item.blk (X 3).1.2 (Jn.cells (⟨[], jput 9 0 l34 1, 1, [], true⟩ : Jn) (X 0).1 (X 2).1 (X 0).2) 38]) (i := 0) rfl rfl rfl rfl Sz38 rfl rfl (by simp) (by simp [Value.oneCell', Jn.cells]) rfl rfl) rfl rfl (fun _ => rfl) (fun _ _ => rfl) (fun X Y h0 h => ⟨by first | rfl | simp only [h0, h 0 (by decide), h 2 (by decide), h 3 (by decide)], by first | rfl | (show ([Sx.Item.blk (X 3).1.2 (Jn.cells (⟨[], jput 9 0 l34 1, 1, [], true⟩ : Jn) (X 0).1 (X 2).1 (X 0).2) 38] : List Sx.Item) = [Sx.Item.blk (Y 3).1.2 (Jn.cells (⟨[], jput 9 0 l34 1, 1, [], true⟩ : Jn) (Y 0).1 (Y 2).1 (Y 0).2) 38]; simp only [h0, h 0 (by decide), h 2 (by decide), h 3 (by decide)])⟩) (ChainG.nil _ _)))))) rfl rfl (fun X => [_, _, _, _, _]) (fun _ => rfl) (fun X => ?_))
  generalize X 0 = p
  generalize X 2 = q
  generalize (X 3).1.2 = bj
  try dsimp only [List.take_succ_cons, List.take_zero, List.take_nil, List.drop_succ_cons, List.drop_zero, List.drop_nil, List.nil_append, List.cons_append, List.append_nil, List.length_cons, List.length_nil, Nat.reduceAdd, Nat.zero_add]
  refine wl_ground (fun w_3 Hn_ => ?_)
  have hx_ := Hn_.toBelow (by simp)
  have fb_bj : Blk w_3 bj _ _ := Hn_.get (i := 1) rfl
  have fb_b2 : Blk w_3 b2 _ _ := Hn_.get (i := 2) rfl
  have fb_b1 : Blk w_3 b1 _ _ := Hn_.get (i := 3) rfl
  have hh := hh.keep hx_
  have hB := hx_
  have hJ1 : Jn.ok w_3 (⟨[], jput 9 0 l34 1, 1, [], true⟩ : Jn) p.1 q.1 p.2 := ⟨RowC.none _ _, rowC_of_own (Hn_.get (i := 0) rfl) rfl (jput_small (by decide)), RowC.none _ _⟩
  refine wl_nil ?_
  refine fq_then ?_
  refine wc_seq ?_
  refine wc_region ?_
  refine wl_q (q_loadA rfl rfl Mn38 Sz38 rfl (reads_blkA (by simp) fb_bj)) rfl rfl (by decide) ?_
  refine wl_callK (ι := Gh) (fun i => .tuple #[.agg #[.int .i64 (jload ((⟨[], jput 9 0 l34 1, 1, [], true⟩ : Jn)).s0 ((⟨[], jput 9 0 l34 1, 1, [], true⟩ : Jn)).s1).bud, .int .i64 (jload ((⟨[], jput 9 0 l34 1, 1, [], true⟩ : Jn)).s0 ((⟨[], jput 9 0 l34 1, 1, [], true⟩ : Jn)).s1).mar, .int .i64 0, .slice i.1 (jload ((⟨[], jput 9 0 l34 1, 1, [], true⟩ : Jn)).s0 ((⟨[], jput 9 0 l34 1, 1, [], true⟩ : Jn)).s1).ps.length i.2], .int .u64 (jload ((⟨[], jput 9 0 l34 1, 1, [], true⟩ : Jn)).s0 ((⟨[], jput 9 0 l34 1, 1, [], true⟩ : Jn)).s1).seq, .bool (decide (0 < (jload ((⟨[], jput 9 0 l34 1, 1, [], true⟩ : Jn)).s0 ((⟨[], jput 9 0 l34 1, 1, [], true⟩ : Jn)).s1).seq))]) (fun i w w' => RowP w' i (jload ((⟨[], jput 9 0 l34 1, 1, [], true⟩ : Jn)).s0 ((⟨[], jput 9 0 l34 1, 1, [], true⟩ : Jn)).s1).ps) rfl rfl rfl (by decide) En28 rfl (fun w1 hw1 => LoadK ((⟨[], jput 9 0 l34 1, 1, [], true⟩ : Jn)) p.1 q.1 p.2 w1 (hJ1.below (hw1.toBelow (by simp))) Bytes_nil (jput_bytes (by decide)) (hh.keep (hw1.toBelow (by simp)))) (fun m wa_ w_4 _ Hn_ _ hC_ => ?_)
  have hx_ := Hn_.toBelow (by simp)
  have hh := hh.keep hx_
  have fb_bj := fb_bj.below hx_
  have fb_b2 := fb_b2.below hx_
  have fb_b1 := fb_b1.below hx_
  have hJ1 := hJ1.below hx_
  have hB := hB.next hx_
  have hP_m := hC_
  refine wl_q (q_move rfl rfl) rfl rfl (by decide) ?_
  refine wl_q (q_extract rfl rfl rfl) rfl rfl (by decide) ?_
  refine wl_q (q_extract rfl rfl rfl) rfl rfl (by decide) ?_
  refine wl_q (OpQ.to (q_extract rfl rfl rfl) (congrArg Value.bool (by rw [awake_load] <;> rfl))) rfl rfl (by decide) ?_
  refine wl_alloc rfl rfl rfl (by decide) Zr32 (fun b5 => ?_)
  refine wl_store (i := 0) rfl rfl rfl rfl rfl rfl Sz32 rfl rfl (by simp) (by simp [Value.oneCell']) (by first | (simp only [List.take_succ_cons, List.take_zero, List.take_nil, List.drop_succ_cons, List.drop_zero, List.drop_nil, List.nil_append, List.cons_append, List.append_nil, List.length_cons, List.length_nil, Nat.reduceAdd, Nat.zero_add]; rfl) | rfl) (by first | (simp only [List.set_cons_zero, List.set_cons_succ]; rfl) | rfl) ?_
  refine wl_q (q_assign rfl rfl) rfl rfl (by decide) ?_
  refine wl_q (q_assign rfl rfl) rfl rfl (by decide) ?_
  refine wl_nil ?_
  refine fq_then ?_
  refine wc_seq ?_
  refine wc_region ?_
  refine wl_q (q_loadA rfl rfl Mn38 Sz38 rfl (reads_blkA (by simp) fb_bj)) rfl rfl (by decide) ?_
  refine wl_callK (ι := (Gh × Gh)) (fun i => .agg (Jn.cells (((⟨[], jput 9 0 l34 1, 1, [], true⟩ : Jn)).tear 5) i.1 i.2 p.2).toArray) (fun i w w' => Jn.ok w' (((⟨[], jput 9 0 l34 1, 1, [], true⟩ : Jn)).tear 5) i.1 i.2 p.2) rfl rfl rfl (by decide) En31 rfl (fun w1 hw1 => TearK ((⟨[], jput 9 0 l34 1, 1, [], true⟩ : Jn)) 5 p.1 q.1 p.2 w1 (hJ1.below (hw1.toBelow (by simp))) (.inr rfl) (by decide) (by rw [jput_length]; decide) (by decide)) (fun J2 wa_ w_6 _ Hn_ _ hC_ => ?_)
  have hx_ := Hn_.toBelow (by simp)
  have fb_b5 : Blk w_6 b5 _ _ := Hn_.get (i := 0) rfl
  have hh := hh.keep hx_
  have fb_bj := fb_bj.below hx_
  have fb_b2 := fb_b2.below hx_
  have fb_b1 := fb_b1.below hx_
  have hJ1 := hJ1.below hx_
  have hP_m := hP_m.below hx_
  have hB := hB.next hx_
  have hJ_J2 := hC_
  refine wl_callK (ι := Gh) (fun i => .tuple #[.agg #[.int .i64 (jload ((((⟨[], jput 9 0 l34 1, 1, [], true⟩ : Jn)).tear 5)).s0 ((((⟨[], jput 9 0 l34 1, 1, [], true⟩ : Jn)).tear 5)).s1).bud, .int .i64 (jload ((((⟨[], jput 9 0 l34 1, 1, [], true⟩ : Jn)).tear 5)).s0 ((((⟨[], jput 9 0 l34 1, 1, [], true⟩ : Jn)).tear 5)).s1).mar, .int .i64 0, .slice i.1 (jload ((((⟨[], jput 9 0 l34 1, 1, [], true⟩ : Jn)).tear 5)).s0 ((((⟨[], jput 9 0 l34 1, 1, [], true⟩ : Jn)).tear 5)).s1).ps.length i.2], .int .u64 (jload ((((⟨[], jput 9 0 l34 1, 1, [], true⟩ : Jn)).tear 5)).s0 ((((⟨[], jput 9 0 l34 1, 1, [], true⟩ : Jn)).tear 5)).s1).seq, .bool (decide (0 < (jload ((((⟨[], jput 9 0 l34 1, 1, [], true⟩ : Jn)).tear 5)).s0 ((((⟨[], jput 9 0 l34 1, 1, [], true⟩ : Jn)).tear 5)).s1).seq))]) (fun i w w' => RowP w' i (jload ((((⟨[], jput 9 0 l34 1, 1, [], true⟩ : Jn)).tear 5)).s0 ((((⟨[], jput 9 0 l34 1, 1, [], true⟩ : Jn)).tear 5)).s1).ps) rfl rfl rfl (by decide) En28 rfl (fun w1 hw1 => LoadK ((((⟨[], jput 9 0 l34 1, 1, [], true⟩ : Jn)).tear 5)) J2.1 J2.2 p.2 w1 (hJ_J2.below (hw1.toBelow (by simp))) (awake_tear ▸ Bytes_nil) (awake_tear ▸ cut_bytes) (hh.keep (hw1.toBelow (by simp)))) (fun n wa_ w_7 _ Hn_ _ hC_ => ?_)
  have hx_ := Hn_.toBelow (by simp)
  have hh := hh.keep hx_
  have fb_bj := fb_bj.below hx_
  have fb_b2 := fb_b2.below hx_
  have fb_b1 := fb_b1.below hx_
  have hJ1 := hJ1.below hx_
  have hP_m := hP_m.below hx_
  have fb_b5 := fb_b5.below hx_
  have hJ_J2 := hJ_J2.below hx_
  have hB := hB.next hx_
  have hP_n := hC_
  refine wl_q (q_move rfl rfl) rfl rfl (by decide) ?_
  refine wl_q (q_extract rfl rfl rfl) rfl rfl (by decide) ?_
  refine wl_q (q_extract rfl rfl rfl) rfl rfl (by decide) ?_
  refine wl_q (OpQ.to (q_extract rfl rfl rfl) (congrArg Value.bool (by rw [awake_tear, awake_cut] <;> rfl))) rfl rfl (by decide) ?_
  refine wl_alloc rfl rfl rfl (by decide) Zr32 (fun b8 => ?_)
  refine wl_store (i := 0) rfl rfl rfl rfl rfl rfl Sz32 rfl rfl (by simp) (by simp [Value.oneCell']) (by first | (simp only [List.take_succ_cons, List.take_zero, List.take_nil, List.drop_succ_cons, List.drop_zero, List.drop_nil, List.nil_append, List.cons_append, List.append_nil, List.length_cons, List.length_nil, Nat.reduceAdd, Nat.zero_add]; rfl) | rfl) (by first | (simp only [List.set_cons_zero, List.set_cons_succ]; rfl) | rfl) ?_
  refine wl_q (q_assign rfl rfl) rfl rfl (by decide) ?_
  refine wl_q (q_assign rfl rfl) rfl rfl (by decide) ?_
  refine wl_nil ?_
  refine fq_then ?_
  refine wc_seq ?_
  obtain ⟨ad1, hA1, hr1⟩ := hP_m.at (j := 0) (p := ⟨3, 4⟩) (by rw [awake_load] <;> rfl)
  skip
  refine wc_region ?_
  refine wl_q (q_move rfl rfl) rfl rfl (by decide) ?_
  refine wl_q (q_move rfl rfl) rfl rfl (by decide) ?_
  refine wl_want (b := true) (q_move rfl rfl) rfl rfl rfl rfl (by decide) ?_
  refine wl_want (b := true) (OpQ.to (q_bin rfl rfl rfl rfl) (congrArg Value.bool (by rw [awake_load] <;> rfl))) rfl rfl rfl rfl (by decide) ?_
  refine wl_q (q_pick rfl rfl rfl) rfl rfl (by decide) ?_
  refine wl_q (q_move rfl rfl) rfl rfl (by decide) ?_
  refine wl_want (b := true) (q_fa (o1 := 0) rfl rfl Fo32_0 rfl) rfl rfl rfl rfl (by decide) ?_
  refine wl_want (b := true) (q_load rfl rfl Mn3 (reads_blk (by simp) fb_b5 rfl)) rfl rfl rfl rfl (by decide) ?_
  refine wl_want (b := true) (OpQ.to (q_bin rfl rfl rfl rfl) (congrArg Value.bool (by rw [awake_load] <;> rfl))) rfl rfl rfl rfl (by decide) ?_
  refine wl_q (q_pick rfl rfl rfl) rfl rfl (by decide) ?_
  refine wl_q (q_move rfl rfl) rfl rfl (by decide) ?_
  refine wl_want (b := true) (q_fa (o1 := 3) rfl rfl Fo32_3 rfl) rfl rfl rfl rfl (by decide) ?_
  refine wl_want (b := true) (q_load rfl rfl Mn30 (reads_blk (by simp) fb_b5 rfl)) rfl rfl rfl rfl (by decide) ?_
  refine wl_want (b := true) (q_len rfl rfl Tryd.underlying30) rfl rfl rfl rfl (by decide) ?_
  refine wl_want (b := true) (OpQ.to (q_bin rfl rfl rfl rfl) (congrArg Value.bool (by rw [awake_load] <;> rfl))) rfl rfl rfl rfl (by decide) ?_
  refine wl_q (q_pick rfl rfl rfl) rfl rfl (by decide) ?_
  refine wl_q (q_move rfl rfl) rfl rfl (by decide) ?_
  refine wl_want (b := true) (q_fa (o1 := 3) rfl rfl Fo32_3 rfl) rfl rfl rfl rfl (by decide) ?_
  refine wl_want (b := true) (q_load rfl rfl Mn30 (reads_blk (by simp) fb_b5 rfl)) rfl rfl rfl rfl (by decide) ?_
  refine wl_want (b := true) (q_indexO rfl rfl hA1 rfl Tryd.underlying30 Sz51 (by decide) (by rw [awake_load]; decide)) rfl rfl rfl rfl (by decide) ?_
  refine wl_want (b := true) (q_fax rfl rfl Fo51_1 rfl) rfl rfl rfl rfl (by decide) ?_
  refine wl_want (b := true) (q_load rfl rfl Mn3 (reads_old (by simp) (cell_zero (hr1.one (j := 1) rfl)))) rfl rfl rfl rfl (by decide) ?_
  refine wl_want (b := true) (OpQ.to (q_bin rfl rfl rfl rfl) (congrArg Value.bool (by rfl))) rfl rfl rfl rfl (by decide) ?_
  refine wl_q (q_pick rfl rfl rfl) rfl rfl (by decide) ?_
  refine wl_q (q_move rfl rfl) rfl rfl (by decide) ?_
  refine wl_want (b := true) (q_move rfl rfl) rfl rfl rfl rfl (by decide) ?_
  refine wl_want (b := true) (q_not rfl rfl) rfl rfl rfl rfl (by decide) ?_
  refine wl_q (q_pick rfl rfl rfl) rfl rfl (by decide) ?_
  refine wl_q (q_move rfl rfl) rfl rfl (by decide) ?_
  refine wl_want (b := true) (q_loadA rfl rfl Mn38 Sz38 rfl (reads_blkA (by simp) fb_bj)) rfl rfl rfl rfl (by decide) ?_
  refine wl_unguard (b := true) rfl rfl rfl ?_
  refine wl_callK (ι := (Nat × Gh × Gh)) (fun i => .slice (some ⟨i.1, 0, none⟩) 2 2) (fun i w w' => Blk w' i.1 [.slice i.2.1.1 ((⟨[], jput 9 0 l34 1, 1, [], true⟩ : Jn)).s0.length i.2.1.2, .slice i.2.2.1 ((⟨[], jput 9 0 l34 1, 1, [], true⟩ : Jn)).s1.length i.2.2.2] 22 ∧ RowC w' i.2.1 ((⟨[], jput 9 0 l34 1, 1, [], true⟩ : Jn)).s0 ∧ RowC w' i.2.2 ((⟨[], jput 9 0 l34 1, 1, [], true⟩ : Jn)).s1) rfl rfl rfl (by decide) En30 rfl (fun w1 hw1 => SlotsK ((⟨[], jput 9 0 l34 1, 1, [], true⟩ : Jn)) p.1 q.1 p.2 w1 (hJ1.below (hw1.toBelow (by simp))) (by decide) (by rw [jput_length]; decide)) (fun sl wa_ w_9 _ Hn_ _ hC_ => ?_)
  have hx_ := Hn_.toBelow (by simp)
  have fb_b8 : Blk w_9 b8 _ _ := Hn_.get (i := 0) rfl
  have hh := hh.keep hx_
  have fb_bj := fb_bj.below hx_
  have fb_b2 := fb_b2.below hx_
  have fb_b1 := fb_b1.below hx_
  have hJ1 := hJ1.below hx_
  have hP_m := hP_m.below hx_
  have fb_b5 := fb_b5.below hx_
  have hJ_J2 := hJ_J2.below hx_
  have hP_n := hP_n.below hx_
  have hr1 := hr1.below hx_
  have hB := hB.next hx_
  obtain ⟨fb_sl, hR0_sl, hR1_sl⟩ := hC_
  refine wl_want (b := true) (q_len rfl rfl Tryd.underlying68) rfl rfl rfl rfl (by decide) ?_
  refine wl_want (b := true) (OpQ.to (q_bin rfl rfl rfl rfl) (congrArg Value.bool (by rfl))) rfl rfl rfl rfl (by decide) ?_
  refine wl_q (q_pick rfl rfl rfl) rfl rfl (by decide) ?_
  refine wl_q (q_assign rfl rfl) rfl rfl (by decide) ?_
  refine wl_nil ?_
  refine fq_then ?_
  refine wc_ret ?_
  refine fq_ret1 rfl rfl (fun w1 H => ?_)
  exact ⟨rfl, hB.next (H.toBelow (by simp))⟩
end Go.Proofs.YtbcijmpkmmcdeaaDoor.SF
end
section
namespace Go.Sx
open Go.RowKit Go.Proofs.YtbcijmpkmmcdeaaDoorW.PrintWords
set_option linter.unusedVariables false
set_option linter.unusedSimpArgs false
section
variable {P : Program} {ops : Array Oper} {Q : Exit → Act → World → Prop} {w0 : World} {N : Fr} {l : List Oper} {env : Env} {hp : List Item} {o : Oper}
theorem q_eqAgg {op : BinOp} {t u : TypeId} {x y : Operand} {p q : Array Value} {c : Bool} (ho : o.op = .binOp op t x y u) (hop : op = .eql ∨ op = .neq) (hx : evE x env = some (.agg p)) (hy : evE y env = some (.agg q)) (hm : P.eqGuardType P.depth t = false)
    (hr : ∀ w : World, (Op.equal t (.agg p) (.agg q)).run P w = .ok c w) : OpQ P o env w0 hp (.bool (bif op matches .eql then c else !c)) :=
  q_eq ho hop hx hy fun w => ⟨run_eqGuard_agg w op t x y p q hm, by
    rcases hop with rfl | rfl
    · show (do pure (Value.bool (← Op.equal t (.agg p) (.agg q))) : Sem Value).run P w = _
      rw [Sem.run_bind, hr w]; rfl
    · show (do pure (Value.bool (!(← Op.equal t (.agg p) (.agg q)))) : Sem Value).run P w = _
      rw [Sem.run_bind, hr w]; rfl⟩
end
end Go.Sx
end
section
namespace Go.Proofs.YtbcijmpkmmcdeaaDoor.SF
open Go.RowKit Go.Sx Go.Proofs.YtbcijmpkmmcdeaaDoor.PAll Go.Proofs.YtbcijmpkmmcdeaaDoorW.PrintWords Go.Proofs.YtbcijmpkmmcdeaaDoorW.PrintLast Go.Proofs.YtbcijmpkmmcdeaaDoorW.PrintMore
set_option linter.unusedVariables false
set_option linter.unusedSimpArgs false
set_option maxRecDepth 100000
def to91 (p : S51) : S91 := ⟨p.f0, p.f1⟩
def pc91 (p : S91) : List Value := [.int .i64 p.f0, .int .i64 p.f1]
def RowR (w : World) (q : Gh) (l : List S91) : Prop := l.length ≤ q.2 ∧ Kd.C k91 w q.1 l.length l
theorem RowR.below {w w' : World} {q : Gh} {l : List S91} (h : RowR w q l) (hb : Below w.heap.size w w') : RowR w' q l := ⟨h.1, Kd.C_below h.2 hb⟩
theorem flat_at91 : ∀ {l : List S91} {j i : Nat} {p : S91} {u : Value}, l[j]? = some p → (pc91 p)[i]? = some u → (l.flatMap pc91)[j * 2 + i]? = some u
  | [], j, i, p, u, h, _ => by simp at h
  | q :: l, 0, i, p, u, h, hu => by
    cases h
    have hi : i < 2 := (List.getElem?_eq_some_iff.1 hu).1
    rw [List.flatMap_cons, List.getElem?_append_left (by show 0 * 2 + i < 2; omega), Nat.zero_mul, Nat.zero_add]
    exact hu
  | q :: l, j + 1, i, p, u, h, hu => by
    rw [List.flatMap_cons, show (j + 1) * 2 + i = 2 + (j * 2 + i) by omega, List.getElem?_append_right (by show 2 ≤ 2 + (j * 2 + i); omega)]
    show (l.flatMap pc91)[2 + (j * 2 + i) - 2]? = some u
    rw [Nat.add_sub_cancel_left]
    exact flat_at91 (by simpa using h) hu
theorem C91_of_own {w : World} {base c : Nat} {A : Option Addr} {l : List S91} (h : w.ownsRow base 91 2 (.slice A l.length c) l.length (l.flatMap pc91)) (hn : l.length ≤ 9223372036854775807) : Kd.C k91 w A l.length l := by
  obtain ⟨ad, hA, hc⟩ := own_cell h (by decide)
  exact ⟨rfl, hn, fun h0 => ⟨ad, hA h0, fun j p hp => ⟨pc91 p, rfl, k91_mk w p, fun i u hu => hc _ u (flat_at91 hp hu)⟩⟩⟩
theorem take91 {l : List S51} {j : Nat} {p : S51} (h : l[j]? = some p) : ((l.take (j + 1)).map to91).flatMap pc91 = ((l.take j).map to91).flatMap pc91 ++ [.int .i64 p.f0, .int .i64 p.f1] := by
  rw [List.take_add_one, h]
  simp [pc91, to91]
theorem RowR.at {w : World} {q : Gh} {l : List S91} {j : Nat} {p : S91} (h : RowR w q l) (hp : l[j]? = some p) : ∃ ad, q.1 = some ad ∧ CellsAt w (ad.add (j * 2)) [.int .i64 p.f0, .int .i64 p.f1] := by
  obtain ⟨ad, cs, e, hK, hc⟩ := C_at h.2 hp rfl
  obtain rfl := k91_open hK
  exact ⟨ad, e, hc⟩
theorem eqA91 (d : Nat) (w : World) (x0 y0 x1 y1 : Int) : (Op.equalIn (d + 2) 91 (.agg #[.int .i64 x0, .int .i64 x1]) (.agg #[.int .i64 y0, .int .i64 y1])).run Tryd.prog w = .ok (x0 == y0 && (x1 == y1)) w := by
  refine eqA_of Tryd.underlying91 (by kernel_rfl) ?_
  refine eqf_cons (by rfl) (by go_simp; rfl) (by go_simp; rfl) (by go_simp) ?_
  exact eqf_last (by rfl) (by go_simp; rfl) (by go_simp; rfl) (by go_simp)
theorem eq91 (w : World) (x0 y0 x1 y1 : Int) : (Op.equal 91 (.agg #[.int .i64 x0, .int .i64 x1]) (.agg #[.int .i64 y0, .int .i64 y1])).run Tryd.prog w = .ok (x0 == y0 && (x1 == y1)) w := by
  have h := eqA91 (Op.maxDepth - 2) w x0 y0 x1 y1
  rw [show Op.maxDepth - 2 + 2 = Op.maxDepth from rfl] at h
  simpa [Op.equal] using h
theorem own91 {w : World} {base : Nat} {i : Gh} {l : List S51} (h : w.ownsRow base 91 2 (.slice i.1 l.length i.2) l.length ((l.map to91).flatMap pc91)) (hl : l.length ≤ 100000) : RowR w i (l.map to91) := by
  have e : (l.map to91).length = l.length := List.length_map ..
  rw [← e] at h
  exact ⟨own_cap h, C91_of_own h (by omega)⟩
theorem of16_calls (bu ma cr : Int) (q : Gh) (l : List S51) (w : World) (hr : RowP w q l) (hl : l.length ≤ 100000) : Calls Tryd.prog 27 #[.agg #[.int .i64 bu, .int .i64 ma, .int .i64 cr, .slice q.1 l.length q.2]] w fun e w' => ∃ i : Gh, e = .returned (.agg #[.int .i64 bu, .int .i64 ma, .int .i64 cr, .slice i.1 l.length i.2]) ∧ HeapOK w [.own 0 91 2 (.slice i.1 l.length i.2) l.length ((l.map to91).flatMap pc91), old w] w' := by
  refine enter (w0 := w) (hp := [old w]) (env := [(0, .agg #[.int .i64 bu, .int .i64 ma, .int .i64 cr, .slice q.1 l.length q.2])]) Tryd.func27 rfl 38 rfl (by simp) rfl (HeapOK.start _) ?_
  refine wc_seq ?_
  refine wc_region ?_
  refine wl_box rfl rfl rfl (by decide) rfl rfl (fun b1 => ?_)
  refine wl_alloc rfl rfl rfl (by decide) Zr42 (fun b2 => ?_)
  refine wl_nil ?_
  refine fq_then ?_
  refine wc_seq ?_
  refine wc_region ?_
  refine wl_q (q_fa (o1 := 0) rfl rfl Fo32_0 rfl) rfl rfl (by decide) ?_
  refine wl_q (q_load rfl rfl Mn3 (reads1 (i := 1) rfl rfl)) rfl rfl (by decide) ?_
  refine wl_q (q_fa (o1 := 1) rfl rfl Fo32_1 rfl) rfl rfl (by decide) ?_
  refine wl_q (q_load rfl rfl Mn3 (reads1 (i := 1) rfl rfl)) rfl rfl (by decide) ?_
  refine wl_q (q_fa (o1 := 2) rfl rfl Fo32_2 rfl) rfl rfl (by decide) ?_
  refine wl_q (q_load rfl rfl Mn3 (reads1 (i := 1) rfl rfl)) rfl rfl (by decide) ?_
  refine wl_q (q_build rfl rfl (built_of Zr42 Pl42 (by simp only [fillL, List.map_cons, List.map_nil, Value.cells, List.getElem?_cons_zero, List.getElem?_cons_succ, List.length_cons, List.length_nil, Nat.reduceAdd, Nat.reduceLeDiff, Nat.le_refl, and_self, and_true, true_and, if_true, Nat.zero_add, spl, List.take_succ_cons, List.take_zero, List.take_nil, List.drop_succ_cons, List.drop_zero, List.drop_nil, List.nil_append, List.cons_append, List.append_nil] <;> rfl))) rfl rfl (by decide) ?_
  refine wl_alloc rfl rfl rfl (by decide) Zr42 (fun b3 => ?_)
  refine wl_store (i := 0) rfl rfl rfl rfl rfl rfl Sz42 rfl rfl (by simp) (by simp [Value.oneCell']) (by first | (simp only [List.take_succ_cons, List.take_zero, List.take_nil, List.drop_succ_cons, List.drop_zero, List.drop_nil, List.nil_append, List.cons_append, List.append_nil, List.length_cons, List.length_nil, Nat.reduceAdd, Nat.zero_add]; rfl) | rfl) (by first | (simp only [List.set_cons_zero, List.set_cons_succ]; rfl) | rfl) ?_
  refine wl_nil ?_
  refine fq_then ?_
  refine wc_seq ?_
  refine wc_seq ?_
  refine wc_region ?_
  refine wl_q (q_assign rfl rfl) rfl rfl (by decide) ?_
  refine wl_nil ?_
  refine fq_then ?_
  refine wc_block ?_
  refine wc_own (E := 91) (sz := 2) ?_
  refine wc_loop (ι := (Nat × Gh)) (fun i => [(1, .pointer (some ⟨b1, 0, none⟩)), (2, .pointer (some ⟨b2, 0, none⟩)), (3, .pointer (some ⟨b3, 0, none⟩)), (4, .int .i64 (i.1 : Nat))]) (fun i => [.own 0 91 2 (.slice i.2.1 i.1 i.2.2) i.1 (((l.take i.1).map to91).flatMap pc91), .blk b3 [.int .i64 bu, .int .i64 ma, .int .i64 cr, .slice i.2.1 i.1 i.2.2] 42, .blk b2 [.int .i64 0, .int .i64 0, .int .i64 0, .slice none 0 0] 42, .blk b1 [.int .i64 bu, .int .i64 ma, .int .i64 cr, .slice q.1 l.length q.2] 32, old w]) (fun i => i.1 ≤ l.length) (fun i => l.length - i.1) (0, (none, 0)) (Nat.zero_le _) ⟨List.forall_mem_cons.2 ⟨rfl, List.forall_mem_cons.2 ⟨rfl, List.forall_mem_cons.2 ⟨rfl, List.forall_mem_cons.2 ⟨rfl, fun _ h => (by cases h)⟩⟩⟩⟩, List.Sublist.refl _⟩ ?_
  rintro ⟨j, qw⟩ hj
  simp only at hj
  dsimp only
  refine wc_seq ?_
  refine wc_seq ?_
  refine wc_region ?_
  refine wl_q (q_move rfl rfl) rfl rfl (by decide) ?_
  refine wl_q (q_fa (o1 := 3) rfl rfl Fo32_3 rfl) rfl rfl (by decide) ?_
  refine wl_q (q_load rfl rfl Mn30 (reads1 (i := 3) rfl rfl)) rfl rfl (by decide) ?_
  refine wl_q (q_len rfl rfl Tryd.underlying30) rfl rfl (by decide) ?_
  refine wl_q (q_bin rfl rfl rfl rfl) rfl rfl (by decide) ?_
  refine wl_nil ?_
  refine fq_then ?_
  refine wc_cond rfl (fun h16 => ?_) (fun h16 => ?_)
  · skip
    have q16 := h16
    try simp only [decide_eq_true_eq, decide_eq_false_iff_not, beq_iff_eq, beq_eq_false_iff_ne, bne_iff_ne, ne_eq, bne_eq_false_iff_eq, Int.not_lt, Int.not_le] at q16
    obtain ⟨p, hp⟩ : ∃ p, l[j]? = some p := ⟨_, List.getElem?_eq_getElem (by omega)⟩
    obtain ⟨ad, hA, hrd⟩ := hr.at hp
    have wj : IntKind.i64.wrap ((j : Int) + 1) = ((j + 1 : Nat) : Int) := wrap_nat (by omega)
    refine wc_skip ?_
    refine fq_then ?_
    refine wc_seq ?_
    refine wc_block ?_
    refine wc_any Fol (any_drawG (ι := Gh) 19 2 [(15, fun X => [Sx.Item.blk (X 15).2 [Value.int .i64 p.f0, .int .i64 p.f1] 91]), (16, fun X => [Sx.Item.own 0 91 2 (.slice (X 16).1 (j + 1) (X 16).2) (j + 1) (((l.take j).map to91).flatMap pc91 ++ [Value.int .i64 p.f0, .int .i64 p.f1])]), (18, fun X => [Sx.Item.blk b3 [.int .i64 bu, .int .i64 ma, .int .i64 cr, .slice (X 16).1 (j + 1) (X 16).2] 42])] [⟨[], [], []⟩, ⟨[], [19, 20], []⟩, ⟨[], [], []⟩, ⟨[], [19, 20], []⟩, ⟨[], [], []⟩, ⟨[], [], []⟩, ⟨[], [], []⟩, ⟨[], [19, 20], []⟩, ⟨[], [], []⟩, ⟨[], [19, 20], []⟩, ⟨[], [], []⟩, ⟨[], [], []⟩, ⟨[], [], []⟩, ⟨[], [19, 20], []⟩, ⟨[], [], []⟩, ⟨[], [], []⟩, ⟨[15, 19], [], [15]⟩, ⟨[], [], [15, 16]⟩, ⟨[20], [], [15, 16]⟩] (by kernel_rfl) (ChainG.yield [] [] (fun X => q_fa (o1 := 3) rfl rfl Fo42_3 rfl) rfl rfl (fun _ => rfl) (fun _ _ => rfl) (fun X Y h0 h => ⟨by first | rfl | simp only [h0], by first | rfl | simp only [h0]⟩) (ChainG.yield [19, 20] [] (fun X => q_load rfl rfl Mn40 (reads1 (i := 1) rfl rfl)) rfl rfl (fun _ => rfl) (fun _ _ => rfl) (fun X Y h0 h => ⟨by first | rfl | simp only [h0], by first | rfl | simp only [h0]⟩) (ChainG.yield [] [] (fun X => q_fa (o1 := 3) rfl rfl Fo32_3 rfl) rfl rfl (fun _ => rfl) (fun _ _ => rfl) (fun X Y h0 h => ⟨by first | rfl | simp only [h0], by first | rfl | simp only [h0]⟩) (ChainG.yield [19, 20] [] (fun X => q_load rfl rfl Mn30 (reads1 (i := 3) rfl rfl)) rfl rfl (fun _ => rfl) (fun _ _ => rfl) (fun X Y h0 h => ⟨by first | rfl | simp only [h0], by first | rfl | simp only [h0]⟩) (ChainG.yield [] [] (fun X => q_move rfl rfl) rfl rfl (fun _ => rfl) (fun _ _ => rfl) (fun X Y h0 h => ⟨by first | rfl | simp only [h0], by first | rfl | simp only [h0]⟩) (ChainG.yield [] [] (fun X => q_indexO rfl rfl hA rfl Tryd.underlying30 Sz51 (by omega) (by omega)) rfl rfl (fun _ => rfl) (fun _ _ => rfl) (fun X Y h0 h => ⟨by first | rfl | simp only [h0], by first | rfl | simp only [h0]⟩) (ChainG.yield [] [] (fun X => q_fax rfl rfl Fo51_0 rfl) rfl rfl (fun _ => rfl) (fun _ _ => rfl) (fun X Y h0 h => ⟨by first | rfl | simp only [h0], by first | rfl | simp only [h0]⟩) (ChainG.yield [19, 20] [] (fun X => q_load rfl rfl Mn3 (reads_old (by simp) (cell_zero (hrd.one (j := 0) rfl)))) rfl rfl (fun _ => rfl) (fun _ _ => rfl) (fun X Y h0 h => ⟨by first | rfl | simp only [h0], by first | rfl | simp only [h0]⟩) (ChainG.yield [] [] (fun X => q_fa (o1 := 3) rfl rfl Fo32_3 rfl) rfl rfl (fun _ => rfl) (fun _ _ => rfl) (fun X Y h0 h => ⟨by first | rfl | simp only [h0], by first | rfl | simp only [h0]⟩) (ChainG.yield [19, 20] [] (fun X => q_load rfl rfl Mn30 (reads1 (i := 3) rfl rfl)) rfl rfl (fun _ => rfl) (fun _ _ => rfl) (fun X Y h0 h => ⟨by first | rfl | simp only [h0], by first | rfl | simp only [h0]⟩) (ChainG.yield [] [] (fun X => q_move rfl rfl) rfl rfl (fun _ => rfl) (fun _ _ => rfl) (fun X Y h0 h => ⟨by first | rfl | simp only [h0], by first | rfl | simp only [h0]⟩) (ChainG.yield [] [] (fun X => q_indexO rfl rfl hA rfl Tryd.underlying30 Sz51 (by omega) (by omega)) rfl rfl (fun _ => rfl) (fun _ _ => rfl) (fun X Y h0 h => ⟨by first | rfl | simp only [h0], by first | rfl | simp only [h0]⟩) (ChainG.yield [] [] (fun X => q_fax rfl rfl Fo51_1 rfl) rfl rfl (fun _ => rfl) (fun _ _ => rfl) (fun X Y h0 h => ⟨by first | rfl | simp only [h0], by first | rfl | simp only [h0]⟩) (ChainG.yield [19, 20] [] (fun X => q_load rfl rfl Mn3 (reads_old (by simp) (cell_zero (hrd.one (j := 1) rfl)))) rfl rfl (fun _ => rfl) (fun _ _ => rfl) (fun X Y h0 h => ⟨by first | rfl | simp only [h0], by first | rfl | simp only [h0]⟩) (ChainG.yield [] [] (fun X => q_build rfl rfl (built_of Zr91 Pl91 (by simp only [fillL, List.map_cons, List.map_nil, Value.cells, List.getElem?_cons_zero, List.getElem?_cons_succ, List.length_cons, List.length_nil, Nat.reduceAdd, Nat.reduceLeDiff, Nat.le_refl, and_self, and_true, true_and, if_true, Nat.zero_add, spl, List.take_succ_cons, List.take_zero, List.take_nil, List.drop_succ_cons, List.drop_zero, List.drop_nil, List.nil_append, List.cons_append, List.append_nil] <;> rfl))) rfl rfl (fun _ => rfl) (fun _ _ => rfl) (fun X Y h0 h => ⟨by first | rfl | simp only [h0], by first | rfl | simp only [h0]⟩) (ChainG.mk (fun b => .slice (some ⟨b, 0, none⟩) 1 1) [] (fun X => om_buildSlice rfl rfl Tryd.underlying40 (built_one Sz91 (by decide) Zs91 (by decide) rfl rfl)) rfl rfl (fun _ => rfl) (fun _ _ => rfl) (fun X Y h0 h => ⟨by first | rfl | simp only [h0], by first | rfl | (show ([Sx.Item.blk (X 15).2 [Value.int .i64 p.f0, .int .i64 p.f1] 91] : List Sx.Item) = [Sx.Item.blk (Y 15).2 [Value.int .i64 p.f0, .int .i64 p.f1] 91]; simp only [h0])⟩) (ChainG.ope (fun (X : Nat → Gh) => .slice (X 16).1 (j + 1) (X 16).2) [15, 19] [15] (fun X => (oe_appendR (i := 1) (m := 1) (news := [Value.int .i64 p.f0, .int .i64 p.f1]) rfl Tryd.underlying40 Ap91 (by decide) rfl rfl rfl (fun R w1 hw1 _ => ⟨_, rfl, fun k u hu => by (have hg := readsAll (w0 := w) (hp := _) (i := 0) (cs := [Value.int .i64 p.f0, .int .i64 p.f1]) (T := 91) rfl w1 hw1 k u hu; exact hg)⟩) rfl (by simp [Value.oneCell']) (by unfold maxLen; omega) (by omega)).less (fun _ => List.sublist_cons_self _ _)) rfl rfl (fun X Y h0 h => ⟨by first | rfl | (show (.slice (X 16).1 (j + 1) (X 16).2 : Value) = .slice (Y 16).1 (j + 1) (Y 16).2; simp only [h0, h 15 (by decide)]), by first | rfl | (show ([Sx.Item.own 0 91 2 (.slice (X 16).1 (j + 1) (X 16).2) (j + 1) (((l.take j).map to91).flatMap pc91 ++ [Value.int .i64 p.f0, .int .i64 p.f1])] : List Sx.Item) = [Sx.Item.own 0 91 2 (.slice (Y 16).1 (j + 1) (Y 16).2) (j + 1) (((l.take j).map to91).flatMap pc91 ++ [Value.int .i64 p.f0, .int .i64 p.f1])]; simp only [h0, h 15 (by decide)])⟩) (ChainG.yield [] [15, 16] (fun X => q_fa (o1 := 3) rfl rfl Fo42_3 rfl) rfl rfl (fun _ => rfl) (fun _ _ => rfl) (fun X Y h0 h => ⟨by first | rfl | simp only [h0, h 15 (by decide), h 16 (by decide)], by first | rfl | simp only [h0, h 15 (by decide), h 16 (by decide)]⟩) (ChainG.store [20] [15, 16] (fun X => oe_storeAt (i := 0) rfl rfl rfl rfl Sz40 rfl rfl (by simp) (by simp [Value.oneCell']) rfl rfl) rfl rfl (fun _ => rfl) (fun _ _ => rfl) (fun X Y h0 h => ⟨by first | rfl | simp only [h0, h 15 (by decide), h 16 (by decide)], by first | rfl | (show ([Sx.Item.blk b3 [.int .i64 bu, .int .i64 ma, .int .i64 cr, .slice (X 16).1 (j + 1) (X 16).2] 42] : List Sx.Item) = [Sx.Item.blk b3 [.int .i64 bu, .int .i64 ma, .int .i64 cr, .slice (Y 16).1 (j + 1) (Y 16).2] 42]; simp only [h0, h 15 (by decide), h 16 (by decide)])⟩) (ChainG.nil _ _)))))))))))))))))))) rfl rfl (fun X => [_, _, _, _, _]) (fun _ => rfl) (fun X => ?_))
    generalize X 16 = qa
    try dsimp only [List.take_succ_cons, List.take_zero, List.take_nil, List.drop_succ_cons, List.drop_zero, List.drop_nil, List.nil_append, List.cons_append, List.append_nil, List.length_cons, List.length_nil, Nat.reduceAdd, Nat.zero_add]
    refine wl_nil ?_
    refine fq_block ?_
    refine fq_then ?_
    refine wc_region ?_
    refine wl_q (q_move rfl rfl) rfl rfl (by decide) ?_
    refine wl_q (q_bin rfl rfl rfl rfl) rfl rfl (by decide) ?_
    refine wl_q (q_assign rfl rfl) rfl rfl (by decide) ?_
    refine wl_nil ?_
    rw [← take91 hp]
    refine fq_next (j + 1, qa) (show j + 1 ≤ l.length by omega) (show l.length - (j + 1) < l.length - j by omega) ⟨List.forall_mem_cons.2 ⟨rfl, List.forall_mem_cons.2 ⟨rfl, List.forall_mem_cons.2 ⟨rfl, List.forall_mem_cons.2 ⟨(show some (Value.int .i64 (IntKind.i64.wrap ((j : Int) + 1))) = some (Value.int .i64 ((j + 1 : Nat) : Int)) from by rw [wj]), fun _ h => (by cases h)⟩⟩⟩⟩, List.Sublist.refl _⟩
  · skip
    have q16 := h16
    try simp only [decide_eq_true_eq, decide_eq_false_iff_not, beq_iff_eq, beq_eq_false_iff_ne, bne_iff_ne, ne_eq, bne_eq_false_iff_eq, Int.not_lt, Int.not_le] at q16
    obtain rfl : j = l.length := by omega
    rw [List.take_of_length_le (Nat.le_refl _)]
    refine wc_exit ?_
    refine fq_then_exit ?_
    refine fq_then_exit ?_
    refine fq_block_hit ?_
    refine fq_then ?_
    refine wc_seq ?_
    refine wc_region ?_
    refine wl_q (q_loadA rfl rfl Mn42 Sz42 rfl (readsAll (i := 1) rfl)) rfl rfl (by decide) ?_
    refine wl_store (i := 2) rfl rfl rfl rfl rfl rfl Sz42 rfl rfl (by simp) (by simp [Value.oneCell']) (by first | (simp only [List.take_succ_cons, List.take_zero, List.take_nil, List.drop_succ_cons, List.drop_zero, List.drop_nil, List.nil_append, List.cons_append, List.append_nil, List.length_cons, List.length_nil, Nat.reduceAdd, Nat.zero_add]; rfl) | rfl) (by first | (simp only [List.set_cons_zero, List.set_cons_succ]; rfl) | rfl) ?_
    refine wl_nil ?_
    refine fq_then ?_
    refine wc_ret ?_
    refine fq_cell (i := 2) (.inl rfl) rfl rfl rfl Mn42 Sz42 rfl (fun w1 H => ?_)
    exact ⟨qw, rfl, H.pick [0, 4] (by decide) rfl⟩
theorem same_calls (bu ma cr : Int) (qa qb : Gh) (l : List S91) (w : World) (ha : RowR w qa l) (hb : RowR w qb l) (hl : l.length ≤ 100000) : Calls Tryd.prog 18 #[.agg #[.int .i64 bu, .int .i64 ma, .int .i64 cr, .slice qa.1 l.length qa.2], .agg #[.int .i64 bu, .int .i64 ma, .int .i64 cr, .slice qb.1 l.length qb.2]] w fun e w' => e = .returned (.bool true) ∧ Below w.heap.size w w' := by
  refine enter (w0 := w) (hp := [old w]) (env := [(0, .agg #[.int .i64 bu, .int .i64 ma, .int .i64 cr, .slice qa.1 l.length qa.2]), (1, .agg #[.int .i64 bu, .int .i64 ma, .int .i64 cr, .slice qb.1 l.length qb.2])]) Tryd.func18 rfl 52 rfl (by simp) rfl (HeapOK.start _) ?_
  refine wc_seq ?_
  refine wc_region ?_
  refine wl_box rfl rfl rfl (by decide) rfl rfl (fun b1 => ?_)
  refine wl_box rfl rfl rfl (by decide) rfl rfl (fun b2 => ?_)
  refine wl_q (q_assign rfl rfl) rfl rfl (by decide) ?_
  refine wl_nil ?_
  refine fq_then ?_
  refine wc_seq ?_
  refine wc_seq ?_
  refine wc_region ?_
  refine wl_q (q_fa (o1 := 0) rfl rfl Fo42_0 rfl) rfl rfl (by decide) ?_
  refine wl_q (q_load rfl rfl Mn3 (reads1 (i := 1) rfl rfl)) rfl rfl (by decide) ?_
  refine wl_q (q_fa (o1 := 0) rfl rfl Fo42_0 rfl) rfl rfl (by decide) ?_
  refine wl_q (q_load rfl rfl Mn3 (reads1 (i := 0) rfl rfl)) rfl rfl (by decide) ?_
  refine wl_q (OpQ.to (q_bin rfl rfl rfl rfl) (congrArg Value.bool (show (bu != bu) = false by simp))) rfl rfl (by decide) ?_
  refine wl_q (q_move rfl rfl) rfl rfl (by decide) ?_
  refine wl_want (b := false) (q_fa (o1 := 1) rfl rfl Fo42_1 rfl) rfl rfl rfl rfl (by decide) ?_
  refine wl_want (b := false) (q_load rfl rfl Mn3 (reads1 (i := 1) rfl rfl)) rfl rfl rfl rfl (by decide) ?_
  refine wl_want (b := false) (q_fa (o1 := 1) rfl rfl Fo42_1 rfl) rfl rfl rfl rfl (by decide) ?_
  refine wl_want (b := false) (q_load rfl rfl Mn3 (reads1 (i := 0) rfl rfl)) rfl rfl rfl rfl (by decide) ?_
  refine wl_want (b := false) (OpQ.to (q_bin rfl rfl rfl rfl) (congrArg Value.bool (show (ma != ma) = false by simp))) rfl rfl rfl rfl (by decide) ?_
  refine wl_q (q_pick rfl rfl rfl) rfl rfl (by decide) ?_
  refine wl_q (q_move rfl rfl) rfl rfl (by decide) ?_
  refine wl_want (b := false) (q_fa (o1 := 2) rfl rfl Fo42_2 rfl) rfl rfl rfl rfl (by decide) ?_
  refine wl_want (b := false) (q_load rfl rfl Mn3 (reads1 (i := 1) rfl rfl)) rfl rfl rfl rfl (by decide) ?_
  refine wl_want (b := false) (q_fa (o1 := 2) rfl rfl Fo42_2 rfl) rfl rfl rfl rfl (by decide) ?_
  refine wl_want (b := false) (q_load rfl rfl Mn3 (reads1 (i := 0) rfl rfl)) rfl rfl rfl rfl (by decide) ?_
  refine wl_want (b := false) (OpQ.to (q_bin rfl rfl rfl rfl) (congrArg Value.bool (show (cr != cr) = false by simp))) rfl rfl rfl rfl (by decide) ?_
  refine wl_q (q_pick rfl rfl rfl) rfl rfl (by decide) ?_
  refine wl_q (q_move rfl rfl) rfl rfl (by decide) ?_
  refine wl_want (b := false) (q_fa (o1 := 3) rfl rfl Fo42_3 rfl) rfl rfl rfl rfl (by decide) ?_
  refine wl_want (b := false) (q_load rfl rfl Mn40 (reads1 (i := 1) rfl rfl)) rfl rfl rfl rfl (by decide) ?_
  refine wl_want (b := false) (q_len rfl rfl Tryd.underlying40) rfl rfl rfl rfl (by decide) ?_
  refine wl_want (b := false) (q_fa (o1 := 3) rfl rfl Fo42_3 rfl) rfl rfl rfl rfl (by decide) ?_
  refine wl_want (b := false) (q_load rfl rfl Mn40 (reads1 (i := 0) rfl rfl)) rfl rfl rfl rfl (by decide) ?_
  refine wl_want (b := false) (q_len rfl rfl Tryd.underlying40) rfl rfl rfl rfl (by decide) ?_
  refine wl_want (b := false) (OpQ.to (q_bin rfl rfl rfl rfl) (congrArg Value.bool (show (((l.length : Nat) : Int) != ((l.length : Nat) : Int)) = false by simp))) rfl rfl rfl rfl (by decide) ?_
  refine wl_q (q_pick rfl rfl rfl) rfl rfl (by decide) ?_
  refine wl_nil ?_
  refine fq_then ?_
  refine wc_false rfl ?_
  refine wc_skip ?_
  refine fq_then ?_
  refine wc_seq ?_
  refine wc_seq ?_
  refine wc_region ?_
  refine wl_q (q_assign rfl rfl) rfl rfl (by decide) ?_
  refine wl_nil ?_
  refine fq_then ?_
  refine wc_block ?_
  refine wc_loop (ι := Nat) (fun j => [(2, .pointer (some ⟨b1, 0, none⟩)), (3, .pointer (some ⟨b2, 0, none⟩)), (5, .int .i64 (j : Nat))]) (fun j => [.blk b2 [.int .i64 bu, .int .i64 ma, .int .i64 cr, .slice qb.1 l.length qb.2] 42, .blk b1 [.int .i64 bu, .int .i64 ma, .int .i64 cr, .slice qa.1 l.length qa.2] 42, old w]) (fun j => j ≤ l.length) (fun j => l.length - j) 0 (Nat.zero_le _) ⟨List.forall_mem_cons.2 ⟨rfl, List.forall_mem_cons.2 ⟨rfl, List.forall_mem_cons.2 ⟨rfl, fun _ h => (by cases h)⟩⟩⟩, List.Sublist.refl _⟩ ?_
  intro j hj
  refine wc_seq ?_
  refine wc_seq ?_
  refine wc_region ?_
  refine wl_q (q_move rfl rfl) rfl rfl (by decide) ?_
  refine wl_q (q_fa (o1 := 3) rfl rfl Fo42_3 rfl) rfl rfl (by decide) ?_
  refine wl_q (q_load rfl rfl Mn40 (reads1 (i := 1) rfl rfl)) rfl rfl (by decide) ?_
  refine wl_q (q_len rfl rfl Tryd.underlying40) rfl rfl (by decide) ?_
  refine wl_q (q_bin rfl rfl rfl rfl) rfl rfl (by decide) ?_
  refine wl_nil ?_
  refine fq_then ?_
  refine wc_cond rfl (fun h38 => ?_) (fun h38 => ?_)
  · skip
    have q38 := h38
    try simp only [decide_eq_true_eq, decide_eq_false_iff_not, beq_iff_eq, beq_eq_false_iff_ne, bne_iff_ne, ne_eq, bne_eq_false_iff_eq, Int.not_lt, Int.not_le] at q38
    obtain ⟨p, hp⟩ : ∃ p, l[j]? = some p := ⟨_, List.getElem?_eq_getElem (by omega)⟩
    obtain ⟨ada, hA, hra⟩ := ha.at hp
    obtain ⟨adb, hB, hrb⟩ := hb.at hp
    have wj : IntKind.i64.wrap ((j : Int) + 1) = ((j + 1 : Nat) : Int) := wrap_nat (by omega)
    refine wc_skip ?_
    refine fq_then ?_
    refine wc_seq ?_
    refine wc_block ?_
    refine wc_seq ?_
    refine wc_draw 11 Fol (by kernel_rfl) (Chain.yield (q_fa (o1 := 3) rfl rfl Fo42_3 rfl) rfl rfl (Chain.yield (q_load rfl rfl Mn40 (reads1 (i := 1) rfl rfl)) rfl rfl (Chain.yield (q_move rfl rfl) rfl rfl (Chain.yield (q_indexO rfl rfl hA rfl Tryd.underlying40 Sz91 (by omega) (by omega)) rfl rfl (Chain.yield (q_loadA rfl rfl Mn91 Sz91 rfl (reads_old (cs := [.int .i64 p.f0, .int .i64 p.f1]) (by simp) hra)) rfl rfl (Chain.yield (q_fa (o1 := 3) rfl rfl Fo42_3 rfl) rfl rfl (Chain.yield (q_load rfl rfl Mn40 (reads1 (i := 0) rfl rfl)) rfl rfl (Chain.yield (q_move rfl rfl) rfl rfl (Chain.yield (q_indexO rfl rfl hB rfl Tryd.underlying40 Sz91 (by omega) (by omega)) rfl rfl (Chain.yield (q_loadA rfl rfl Mn91 Sz91 rfl (reads_old (cs := [.int .i64 p.f0, .int .i64 p.f1]) (by simp) hrb)) rfl rfl (Chain.yield (OpQ.to (q_eqAgg (c := (p.f0 == p.f0 && (p.f1 == p.f1))) rfl (.inr rfl) rfl rfl (by kernel_rfl) (fun w1 => eq91 w1 _ _ _ _)) (congrArg Value.bool (show (!(p.f0 == p.f0 && (p.f1 == p.f1))) = false by simp))) rfl rfl (Chain.nil _)))))))))))) ?_
    refine wl_nil ?_
    refine fq_then ?_
    refine wc_false rfl ?_
    refine wc_skip ?_
    refine fq_block ?_
    refine fq_then ?_
    refine wc_region ?_
    refine wl_q (q_move rfl rfl) rfl rfl (by decide) ?_
    refine wl_q (q_bin rfl rfl rfl rfl) rfl rfl (by decide) ?_
    refine wl_q (q_assign rfl rfl) rfl rfl (by decide) ?_
    refine wl_nil ?_
    refine fq_next (j + 1) (show j + 1 ≤ l.length by omega) (show l.length - (j + 1) < l.length - j by omega) ⟨List.forall_mem_cons.2 ⟨rfl, List.forall_mem_cons.2 ⟨rfl, List.forall_mem_cons.2 ⟨(show some (Value.int .i64 (IntKind.i64.wrap ((j : Int) + 1))) = some (Value.int .i64 ((j + 1 : Nat) : Int)) from by rw [wj]), fun _ h => (by cases h)⟩⟩⟩, List.Sublist.refl _⟩
  · skip
    have q38 := h38
    try simp only [decide_eq_true_eq, decide_eq_false_iff_not, beq_iff_eq, beq_eq_false_iff_ne, bne_iff_ne, ne_eq, bne_eq_false_iff_eq, Int.not_lt, Int.not_le] at q38
    refine wc_exit ?_
    refine fq_then_exit ?_
    refine fq_then_exit ?_
    refine fq_block_hit ?_
    refine fq_then ?_
    refine wc_seq ?_
    refine wc_region ?_
    refine wl_q (q_assign rfl rfl) rfl rfl (by decide) ?_
    refine wl_nil ?_
    refine fq_then ?_
    refine wc_ret ?_
    refine fq_ret1 rfl rfl (fun w1 H => ?_)
    exact ⟨rfl, H.toBelow (by simp)⟩
theorem ofK16 (bu ma cr : Int) (q : Gh) (l : List S51) (w : World) (hr : RowP w q l) (hl : l.length ≤ 100000) : Calls Tryd.prog 27 #[.agg #[.int .i64 bu, .int .i64 ma, .int .i64 cr, .slice q.1 l.length q.2]] w fun e w' => ∃ i : Gh, RowR w' i (l.map to91) ∧ e = .returned (.agg #[.int .i64 bu, .int .i64 ma, .int .i64 cr, .slice i.1 l.length i.2]) ∧ Below w.heap.size w w' :=
  (of16_calls bu ma cr q l w hr hl).mono (fun e w' ⟨i, h1, h2⟩ => ⟨i, own91 (h2.get (i := 0) rfl) hl, h1, h2.toBelow (by simp)⟩)
end Go.Proofs.YtbcijmpkmmcdeaaDoor.SF
end
section
namespace Go.Proofs.YtbcijmpkmmcdeaaDoor.PAll
open Go.RowKit Go.Proofs.YtbcijmpkmmcdeaaDoorW.PrintWords Go.Proofs.YtbcijmpkmmcdeaaDoorW.PrintLast Go.Proofs.YtbcijmpkmmcdeaaDoorW.PrintMore
attribute [local go_sem] max2_int min2_int max_two min_two max_three min_three max_four min_four
set_option linter.unusedVariables false
set_option linter.unusedSimpArgs false
def paternosterref16_num.f (k : Nat) (a0 : ByteArray) (a1 : Int) : Option (Int) := if 0 ≤ a1 then (if a1 ≤ (a0.size : Int) then ((paternosterref01_Get.f k a1 (a0.extract 0 (a1 : Int).toNat)).bind fun bt237 => (if 0 < (bt237.1.length : Int) then (some (rd bt237.1 0)) else (none))) else (none)) else (none)
set_option maxHeartbeats 8000000 in
set_option maxRecDepth 100000 in
theorem paternosterref16_num.calls (k : Nat) (a0 : ByteArray) (a1 : Int) (r : Int) (w : World) (h : paternosterref16_num.f k a0 a1 = some r) :
    Calls Tryd.prog 49 #[.string a0, .int .i64 a1] w fun e w' => e = .returned (.int .u64 r) ∧ Below w.heap.size w w' := by
  have HB := Aside0.mk (Below.refl w.heap.size w)
  have H : (if 0 ≤ a1 then (if a1 ≤ (a0.size : Int) then ((paternosterref01_Get.f k a1 (a0.extract 0 (a1 : Int).toNat)).bind fun bt237 => (if 0 < (bt237.1.length : Int) then (some (rd bt237.1 0)) else (none))) else (none)) else (none)) = some r := h
  clear h
  by_cases c3 : 0 ≤ a1
  · rw [if_pos c3] at H
    have c3b0 := eq_true c3
    have c3b1 : decide (0 ≤ a1) = true := decide_eq_true c3
    clear c3
    by_cases c4 : a1 ≤ (a0.size : Int)
    · rw [if_pos c4] at H
      have c4b0 := eq_true c4
      have c4b1 : decide (a1 ≤ (a0.size : Int)) = true := decide_eq_true c4
      clear c4
      replace H := Option.bind_eq_some_iff.mp H
      obtain ⟨⟨t237, t238⟩, A50, H⟩ := H
      replace H : (if 0 < (t237.length : Int) then (some (rd t237 0)) else (none)) = some r := H
      have A5 := Aside0.mk A50
      clear A50
      by_cases c6 : 0 < (t237.length : Int)
      · rw [if_pos c6] at H
        have c6b0 : decide (0 < (t237.length : Int)) = true := decide_eq_true c6
        have c6b1 : decide (0 < t237.length) = true := decide_eq_true (by omega)
        clear c6
        obtain rfl := Option.some.inj H
        go_enter Tryd.func49, Tryd.ntmps49
        go_wp2_with (first | ((with_reducible refine gate_callee (f := 68) rfl ?_); refine goesL_ (some 12) rfl rfl Tryd.func68 (by kernel_rfl) rfl #[.int .i64 a1, .string (a0.extract 0 (a1 : Int).toNat)] rfl (by (try simp only [List.map_toArray, List.map_cons, List.map_nil]); first | done | rfl | (simp only [List.length_drop, List.length_take]; rfl)) ?_; (with_reducible refine (paternosterref01_Get.calls k a1 (a0.extract 0 (a1 : Int).toNat) t237 t238 _ A5.out).mono ?_); rintro e w7 ⟨v239, rfl, ho0, hb⟩; refine ⟨_, rfl, ?_⟩; have n0_ := Aside0.mk (Kd.R_lower ho0 (below_size (by repeat (first | (with_reducible first | exact HB.out | apply below_alloc | apply pw_below_drewN | apply below_drew1) | exact HB.out)))); have n1_ := Aside0.mk (below_step (by repeat (first | (with_reducible first | exact HB.out | apply below_alloc | apply pw_below_drewN | apply below_drew1) | exact HB.out)) hb); clear HB; have HO240 := n0_; have HB := n1_; clear n0_ n1_; (try clear hb); (try clear hb2); (try clear hk); (try clear hi); (try clear ho0); obtain ⟨Ao8, co8, eo8⟩ := Kd.R_slice HO240.out; subst eo8; have p241 : 0 ≤ (0 : Int) := (by omega); have q241 : 0 < (t237.length : Int) := of_decide_eq_true (by first | (with_reducible assumption) | assumption); obtain ⟨ad241, e241, hx241_0⟩ := Kd.at_int (Kd.R_reads' HO240.out).2.2 0 p241 q241; cases e241; have qi241 : (0 < t237.length) = True := eq_true (by omega); (try rw [show ((0 : Int)).toNat = 0 from rfl] at hx241_0); (try rw [Addr.add_zero'] at hx241_0); replace p241 := eq_true p241; replace q241 := eq_true q241))
        go_ret
        exact ⟨by first | rfl | (simp [errW_none, errW_some] <;> rfl) | (simp [*, errW_none, errW_some] <;> rfl), by repeat (first | (with_reducible first | exact HB.out | apply below_alloc | apply pw_below_drewN | apply below_drew1) | exact HB.out)⟩
      · rw [if_neg c6] at H
        exact absurd H (by simp)
    · rw [if_neg c4] at H
      exact absurd H (by simp)
  · rw [if_neg c3] at H
    exact absurd H (by simp)
end Go.Proofs.YtbcijmpkmmcdeaaDoor.PAll
end
