/- Walks (no statement stands here). -/
import Derived.Test.YthpfhglncbkinaaDoorSf
import Derived.Test.YthpfhglncbkinaaDoorWMore
import Derived.Test.YthpfhglncbkinaaDoorWLast
namespace Go.Proofs.YthpfhglncbkinaaDoor.SF
open Go.RowKit Go.Sx Go.Proofs.YthpfhglncbkinaaDoorW.PrintWords Go.Proofs.YthpfhglncbkinaaDoorW.PrintLast Go.Proofs.YthpfhglncbkinaaDoorW.PrintMore
set_option linter.unusedVariables false
set_option linter.unusedSimpArgs false
set_option maxRecDepth 100000
def mxI (a b : Int) : Int := if a < b then b else a
def mnI (a b : Int) : Int := if b < a then b else a
theorem wk1 {k n : Nat} (h : k < n) (hn : n ≤ 9223372036854775807) : IntKind.i64.wrap ((k : Int) + 1) = ((k + 1 : Nat) : Int) := by
  rw [i64_w]; unfold wrap64; omega
/-- The first place, from k on, of which it is so. -/
def fi (ans : Nat → Bool) : Nat → Nat → Option Nat
  | 0, _ => none
  | m + 1, k => if ans k then some k else fi ans m (k + 1)
def resI (ans : Nat → Bool) (n : Nat) : Int := match fi ans n 0 with | some j => j | none => -1
def endI (ans : Nat → Bool) (n : Nat) : Nat := match fi ans n 0 with | some j => j + 1 | none => n
theorem fi_hit (ans : Nat → Bool) (k : Nat) (hk : ans k = true) : ∀ (d i m : Nat), i + d = k → d < m → (∀ j, j < k → ans j = false) → fi ans m i = some k
  | 0, i, m, h, hm, hf => by
    obtain ⟨m', rfl⟩ : ∃ m', m = m' + 1 := ⟨m - 1, by omega⟩
    obtain rfl : i = k := by omega
    simp [fi, hk]
  | d + 1, i, m, h, hm, hf => by
    obtain ⟨m', rfl⟩ : ∃ m', m = m' + 1 := ⟨m - 1, by omega⟩
    simp only [fi, hf i (by omega), Bool.false_eq_true, if_false]
    exact fi_hit ans k hk d (i + 1) m' (by omega) (by omega) hf
theorem fi_none (ans : Nat → Bool) : ∀ (m i : Nat), (∀ j, j < i + m → ans j = false) → fi ans m i = none
  | 0, i, h => rfl
  | m + 1, i, h => by
    simp only [fi, h i (by omega), Bool.false_eq_true, if_false]
    exact fi_none ans m (i + 1) (fun j hj => h j (by omega))
theorem resI_hit {ans : Nat → Bool} {k n : Nat} (hk : ans k = true) (hn : k < n) (hf : ∀ j, j < k → ans j = false) : resI ans n = k ∧ endI ans n = k + 1 := by
  have := fi_hit ans k hk k 0 n (by omega) hn hf
  simp [resI, endI, this]
theorem resI_none {ans : Nat → Bool} {n : Nat} (hf : ∀ j, j < n → ans j = false) : resI ans n = -1 ∧ endI ans n = n := by
  have := fi_none ans n 0 (fun j hj => hf j (by omega))
  simp [resI, endI, this]

theorem feedNew_calls (lag : Int) (w : World) : Calls Tryd.prog 34 #[.int .i64 lag] w fun e w' => e = .returned (.agg #[.int .i64 (mnI (mxI lag 0) 8), .int .i64 0, .int .i64 0, .int .i64 0, .int .i64 0, .int .i64 0, .int .i64 0, .int .i64 0, .int .i64 0]) ∧ Below w.heap.size w w' := by
  refine enter (w0 := w) (hp := [old w]) (env := [(0, .int .i64 lag)]) Tryd.func34 rfl 7 rfl (by simp) rfl (HeapOK.start _) ?_
  refine wc_seq ?_
  refine wc_region ?_
  refine wl_alloc rfl rfl rfl (by decide) Zr66 (fun b1 => ?_)
  refine wl_nil ?_
  refine fq_then ?_
  refine wc_seq ?_
  refine wc_region ?_
  refine wl_q (q_move rfl rfl) rfl rfl (by decide) ?_
  refine wl_q (q_max rfl rfl rfl) rfl rfl (by decide) ?_
  refine wl_q (q_min rfl rfl rfl) rfl rfl (by decide) ?_
  refine wl_q (q_build rfl rfl (built_of Zr66 Pl66 (by simp only [fillL, List.map_cons, List.map_nil, Value.cells, List.getElem?_cons_zero, List.getElem?_cons_succ, List.length_cons, List.length_nil, Nat.reduceAdd, Nat.reduceLeDiff, Nat.le_refl, and_self, and_true, true_and, if_true, Nat.zero_add, spl, List.take_succ_cons, List.take_zero, List.take_nil, List.drop_succ_cons, List.drop_zero, List.drop_nil, List.nil_append, List.cons_append, List.append_nil]; rfl))) rfl rfl (by decide) ?_
  refine wl_store (i := 0) rfl rfl rfl rfl rfl rfl Sz66 rfl rfl (by simp) (by simp [Value.oneCell']) (by simp only [List.take_succ_cons, List.take_zero, List.take_nil, List.drop_succ_cons, List.drop_zero, List.drop_nil, List.nil_append, List.cons_append, List.append_nil, List.length_cons, List.length_nil, Nat.reduceAdd, Nat.zero_add]; rfl) (by simp only [List.set_cons_zero, List.set_cons_succ]; rfl) ?_
  refine wl_nil ?_
  refine fq_then ?_
  refine wc_ret ?_
  refine fq_cell (i := 0) (.inl rfl) rfl rfl rfl Mn66 Sz66 rfl (fun w1 H => ?_)
  exact ⟨rfl, H.toBelow (by simp)⟩

theorem index_calls (w0 : World) (it : Nat → List Sx.Item) (fc : Nat → List Value) (ans : Nat → Bool) (n c : Nat) (A : Option Addr) (ad : Addr) (g : Nat) (caps : Array Value) (hA : 0 < n → A = some ad) (hn : n ≤ 9223372036854775807) (hl : ∀ i, (fc i).length = 5)
    (hrd : ∀ k i, i < n → Reads w0 (it k) (ad.add (i * 5)) (fc i)) (heg : Ent Tryd.prog g) (hcl : ∀ i, i < n → ∀ w, HeapOK w0 (it i) w → Calls Tryd.prog g (#[] ++ #[.agg (fc i).toArray] ++ caps) w (fun e w' => e = .returned (.bool (ans i)) ∧ HeapOK w0 (it (i + 1)) w')) (w : World) (hw : HeapOK w0 (it 0) w) :
    Calls Tryd.prog 33 #[.slice A n c, .func (.func g) #[] caps] w fun e w' => e = .returned (.int .i64 (resI ans n)) ∧ HeapOK w0 (it (endI ans n)) w' := by
  refine enter (w0 := w0) (hp := it 0) (env := [(0, .slice A n c), (1, .func (.func g) #[] caps)]) Tryd.func33 rfl 19 rfl (by simp) rfl hw ?_
  refine wc_seq ?_
  refine wc_region ?_
  refine wl_q (q_assign rfl rfl) rfl rfl (by decide) ?_
  refine wl_nil ?_
  refine fq_then ?_
  refine wc_seq ?_
  refine wc_seq ?_
  refine wc_region ?_
  refine wl_q (q_move rfl rfl) rfl rfl (by decide) ?_
  refine wl_q (q_len rfl rfl Tryd.underlying22) rfl rfl (by decide) ?_
  refine wl_q (q_move rfl rfl) rfl rfl (by decide) ?_
  refine wl_nil ?_
  refine fq_then ?_
  refine wc_block ?_
  refine wc_loop (ι := Nat) (fun k => [(0, .slice A n c), (1, .func (.func g) #[] caps), (7, .int .i64 n), (8, .int .i64 k)]) (fun k => it k) (fun k => k ≤ n ∧ ∀ j, j < k → ans j = false) (fun k => n - k) 0 ⟨Nat.zero_le _, fun j h => absurd h (Nat.not_lt_zero _)⟩ ⟨List.forall_mem_cons.2 ⟨rfl, List.forall_mem_cons.2 ⟨rfl, List.forall_mem_cons.2 ⟨rfl, List.forall_mem_cons.2 ⟨rfl, fun _ h => (by cases h)⟩⟩⟩⟩, List.Sublist.refl _⟩ ?_
  rintro k ⟨hkn, hno⟩
  refine wc_seq ?_
  refine wc_region ?_
  refine wl_q (q_bin rfl rfl rfl rfl) rfl rfl (by decide) ?_
  refine wl_nil ?_
  refine fq_then ?_
  refine wc_seq ?_
  refine wc_cond rfl (fun h9 => ?_) (fun h9 => ?_)
  · skip
    have hlt : k < n := by simpa using h9
    refine wc_skip ?_
    refine fq_then ?_
    refine wc_seq ?_
    refine wc_block ?_
    refine wc_seq ?_
    refine wc_region ?_
    refine wl_q (q_move rfl rfl) rfl rfl (by decide) ?_
    refine wl_q (q_assign rfl rfl) rfl rfl (by decide) ?_
    refine wl_nil ?_
    refine fq_then ?_
    refine wc_seq ?_
    refine wc_region ?_
    refine wl_q (q_move rfl rfl) rfl rfl (by decide) ?_
    refine wl_q (q_move rfl rfl) rfl rfl (by decide) ?_
    refine wl_q (q_move rfl rfl) rfl rfl (by decide) ?_
    refine wl_q (q_indexO rfl rfl (hA (by omega)) rfl Tryd.underlying22 Sz40 (by omega) (by omega)) rfl rfl (by decide) ?_
    refine wl_q (q_loadA rfl rfl Mn40 Sz40 (hl k) (hrd k k hlt)) rfl rfl (by decide) ?_
    refine wl_clo (ι := Unit) (fun _ => .bool (ans k)) (fun _ => it (k + 1)) (fun _ => True) rfl rfl rfl (by decide) rfl heg rfl (fun w hw => (hcl k hlt w hw).mono (fun e w' h => ⟨(), trivial, h.1, h.2⟩)) (fun _ _ => ?_)
    refine wl_nil ?_
    refine fq_then ?_
    refine wc_cond rfl (fun h16 => ?_) (fun h16 => ?_)
    · skip
      refine wc_seq ?_
      refine wc_region ?_
      refine wl_q (q_move rfl rfl) rfl rfl (by decide) ?_
      refine wl_q (q_assign rfl rfl) rfl rfl (by decide) ?_
      refine wl_nil ?_
      refine fq_then ?_
      refine wc_ret ?_
      refine fq_block_ret ?_
      refine fq_then_ret ?_
      refine fq_then_ret ?_
      refine fq_block_ret ?_
      refine fq_then_ret ?_
      refine fq_ret1 rfl rfl (fun w1 H => ?_)
      first | (have q := resI_hit h16 hlt hno; rw [q.1, q.2]; exact ⟨rfl, H⟩) | (have q := resI_none hno; rw [q.1, q.2]; exact ⟨rfl, H⟩)
    · skip
      refine wc_skip ?_
      refine fq_block ?_
      refine fq_then ?_
      refine wc_region ?_
      refine wl_q (q_bin rfl rfl rfl rfl) rfl rfl (by decide) ?_
      refine wl_q (q_move rfl rfl) rfl rfl (by decide) ?_
      refine wl_nil ?_
      refine fq_next (k + 1) ⟨hlt, fun j hj => (Nat.lt_succ_iff_lt_or_eq.1 hj).elim (hno j) (fun e => e ▸ h16)⟩ (by omega) ⟨List.forall_mem_cons.2 ⟨rfl, List.forall_mem_cons.2 ⟨rfl, List.forall_mem_cons.2 ⟨rfl, List.forall_mem_cons.2 ⟨(congrArg (fun z => some (Value.int .i64 z)) (wk1 hlt hn)), fun _ h => (by cases h)⟩⟩⟩⟩, List.Sublist.refl _⟩
  · skip
    obtain rfl : k = n := (by have : ¬ k < n := (by simpa using h9); omega)
    refine wc_exit ?_
    refine fq_then_exit ?_
    refine fq_then_exit ?_
    refine fq_block_hit ?_
    refine fq_then ?_
    refine wc_seq ?_
    refine wc_region ?_
    refine wl_q (q_assign rfl rfl) rfl rfl (by decide) ?_
    refine wl_nil ?_
    refine fq_then ?_
    refine wc_ret ?_
    refine fq_ret1 rfl rfl (fun w1 H => ?_)
    first | (have q := resI_hit h16 hlt hno; rw [q.1, q.2]; exact ⟨rfl, H⟩) | (have q := resI_none hno; rw [q.1, q.2]; exact ⟨rfl, H⟩)

end Go.Proofs.YthpfhglncbkinaaDoor.SF
