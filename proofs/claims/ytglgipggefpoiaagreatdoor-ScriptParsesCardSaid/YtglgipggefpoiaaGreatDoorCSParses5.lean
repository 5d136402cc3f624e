/- Texts of mine, put together (no statement stands here). -/
import Derived.Test.YtglgipggefpoiaaGreatDoorCSParses1
import Derived.Test.YtglgipggefpoiaaGreatDoorCSParses4
import Derived.Lib.Walk
import Derived.Lib.ItoaMem
import Derived.Lib.AppendIntMem
import Derived.WalkKit
import Derived.BigCall
import Derived.BigGuard
import Derived.Test.YtglgipggefpoiaaGreatDoorCSParses3
import Derived.RangeFuncNested
import Derived.OrdersIn
import Derived.RangeFuncLeaves
import Derived.Shelf.Abstract
section
namespace Go.Proofs.YtglgipggefpoiaaGreatDoor.SF
open Go.Shelf Go.RowKit Go.Sort Go.Lib Go.Proofs
set_option linter.unusedVariables false
set_option linter.unusedSimpArgs false
theorem grow_below (w : World) (k : Nat) (os : Array Obj) : Below w.heap.size w (grow (w.drewN k) os) := by
  refine ⟨rfl, rfl, rfl, ?_, ?_⟩
  · simp [grow]
  · intro j hj
    simp only [grow, World.drewN]
    rw [Array.getElem?_append_left (by simpa using hj)]
set_option maxHeartbeats 6400000 in
set_option maxRecDepth 100000 in
theorem ifu_calls (u : Nat) (hu64 : u < 18446744073709551616) (w : World) (htab : Lib.TabIs Tryz.prog w "internal/strconv.uint64pow10" .u64 Lib.pow10Tab) :
    Calls Tryz.prog 40 #[.int .u64 u, .int .i64 10] w fun e w' => e = .returned (.string ⟨(Lib.decDigits u).toArray⟩) ∧ Below w.heap.size w w' := by
  by_cases hs : u < 100
  · have hw : IntKind.i64.wrap (u : Int) = u := by rw [IntKind.wrap_i64]; omega
    have hd : decide ((u : Int) < 100) = true := decide_eq_true (by omega)
    go_enter Tryz.func40, Tryz.ntmps40
    go_wp2_with (go_at_call 52; refine (Tryz.internal_strconv_small u hs _).mono ?_; rintro e w' ⟨rfl, rfl⟩)
    go_ret
    exact ⟨rfl, Below.refl _ _⟩
  · have hu1 : 1 ≤ u := by omega
    have hd : decide ((u : Int) < 100) = false := decide_eq_false (by omega)
    have hnd20 : Lib.nDigits u ≤ 20 := by have := Lib.numDigits_eq u hu1 hu64; split at this <;> omega
    have hal : Tryz.prog.arrayLen 136 = 24 := by simp [Program.arrayLen, Tryz.underlying136]
    have hsl1 : ∀ W, (Instr.sliceAt 136 (.pointer (some ⟨w.heap.size, 0, none⟩)) none (some (.int .i64 (Lib.nDigits u : Int))) none).run Tryz.prog W = .ok (.slice (some ⟨w.heap.size, 0, none⟩) (Lib.nDigits u) 24) W := fun W => by
      rw [run_sliceAt_array_h W 136 ⟨w.heap.size, 0, none⟩ (by simp [Program.arrayLen, Program.elem, Tryz.underlying136]) .i64 (Lib.nDigits u : Int) (by omega) (by rw [hal]; omega)]
      go_simp
    have hH0 := Lib.holds_zero0 w 136 (Lib.nDigits u) (by omega)
    have hfmt := Tryz.internal_strconv_formatBase10 w.heap.size 0 24 u (Array.replicate (Lib.nDigits u) 0) (w.alloc (.cells Lib.zeros24 136)) hH0 (by rw [Array.size_replicate]; exact Lib.lt_pow_nDigits u) hu64 (by rw [Array.size_replicate]; omega)
    rw [Array.size_replicate] at hfmt
    have HH0 := Lib.hid hH0
    clear hH0 hal
    go_enter Tryz.func40, Tryz.ntmps40
    go_wp2_with (first
      | (go_at_call 53; refine (Tryz.internal_strconv_numDigits u hu1 hu64 _ (Lib.tabIs_alloc htab _)).mono ?_; rintro e w' ⟨rfl, rfl⟩))
    go_at_call 54
    refine hfmt.mono ?_
    rintro e w' ⟨rfl, k, v', dk, rfl, hF⟩
    have hcv : (convert 35 9 (.slice (some ⟨w.heap.size, 0, none⟩) (Lib.nDigits u) 24)).run Tryz.prog ((putRow (fun (b : UInt8) => Value.int .u8 (b.toNat : Int)) (w.alloc (.cells Lib.zeros24 136)) w.heap.size 0 dk).drewN k) = .ok (.string ⟨(Lib.decDigits u).toArray⟩) ((putRow (fun (b : UInt8) => Value.int .u8 (b.toNat : Int)) (w.alloc (.cells Lib.zeros24 136)) w.heap.size 0 dk).drewN k) := by
      have h := run_convert_bytes_back (P := Tryz.prog) ((putRow (fun (b : UInt8) => Value.int .u8 (b.toNat : Int)) (w.alloc (.cells Lib.zeros24 136)) w.heap.size 0 dk).drewN k) 35 9 5 ⟨w.heap.size, 0, none⟩ 24 (Lib.decDigits u) Tryz.underlying35 Tryz.underlying5 Tryz.underlying9 (fun j hj => by
        rw [Lib.row_is_numeral hF j hj, Lib.add_plain, World.cell?_drewN]
        exact cell?_putRow (fun (b : UInt8) => Value.int .u8 (b.toNat : Int)) _ w.heap.size 0 _ dk HH0.out (by rw [hF.size, Array.size_replicate]) j (by rw [hF.size]; rw [Lib.decDigits_length] at hj; exact hj))
      rw [Lib.decDigits_length] at h
      exact h
    go_wp2
    go_ret
    obtain ⟨os, eo⟩ := Lib.fin_at w (.cells Lib.zeros24 136) dk k 0
    rw [eo]
    exact ⟨rfl, grow_below _ _ _⟩
end Go.Proofs.YtglgipggefpoiaaGreatDoor.SF
end
section
namespace Go.Sx
open Go.RowKit
set_option linter.unusedVariables false
set_option linter.unusedSimpArgs false
theorem HeapOK.perm {w0 w : World} {hp hp' : List Item} (h : HeapOK w0 hp w) (hp_ : hp.Perm hp') : HeapOK w0 hp' w :=
  ⟨h.os, h.tape, h.output, h.size, fun it hi => h.ok it (hp_.mem_iff.2 hi), fun it hi => h.bound it (hp_.mem_iff.2 hi),
    (hp_.pairwise_iff (R := Apart) (fun hxy => hxy.symm)).1 h.apart⟩
def YesM {ι : Type} (P : Program) (w0 : World) (v : ι → Value) (hp' : ι → List Item) : Result Go.Next → Prop
  | .ok (.value u) w' => ∃ x, u = v x ∧ HeapOK w0 (hp' x) w'
  | .ok .skip w' => ∃ x, undef = v x ∧ HeapOK w0 (hp' x) w'
  | .ok (.enter f args) w' => Calls P f args w' (fun e w'' => ∃ x, e = .returned (v x) ∧ HeapOK w0 (hp' x) w'')
  | _ => False
def OpE {ι : Type} (P : Program) (o : Oper) (env : Env) (w0 : World) (hp X : List Item) (v : ι → Value) (X' : ι → List Item) : Prop :=
  ∀ (R : List Item) (a : Act) (w : World), EnvOK env a → HeapOK w0 (X ++ (R ++ hp)) w → YesM P w0 v (fun x => X' x ++ (R ++ hp)) ((execOp a.eval o).run P w)
abbrev OpM {ι : Type} (P : Program) (o : Oper) (env : Env) (w0 : World) (hp : List Item) (v : ι → Value) (it : ι → Item) : Prop := OpE P o env w0 hp [] v (fun x => [it x])
theorem OpE.wp {ι : Type} {P : Program} {o : Oper} {env : Env} {w0 : World} {hp X R : List Item} {v : ι → Value} {X' : ι → List Item} (h : OpE P o env w0 hp X v X') {a : Act} {w : World} (he : EnvOK env a) (hh : HeapOK w0 (X ++ (R ++ hp)) w) {K : Act → World → Prop} {Q : Exit → Act → World → Prop}
    (k : ∀ x w', HeapOK w0 (X' x ++ (R ++ hp)) w' → K (a.put o.dst (v x)) w') : o.wp P a w K Q := by
  have := h R a w he hh
  unfold Oper.wp
  generalize (execOp a.eval o).run P w = r at this
  cases r with
  | halt x w' => exact this.elim
  | ok n w' =>
    cases n <;> try exact this.elim
    · obtain ⟨x, rfl, hb⟩ := this
      exact k x w' hb
    · obtain ⟨x, hx, hb⟩ := this
      rw [Oper.upon_skip, hx]
      exact k x w' hb
    · rw [Oper.upon_enter]
      refine Calls.mono this ?_
      rintro e w'' ⟨x, rfl, hb⟩
      exact k x w'' hb
section
variable {P : Program} {ops : Array Oper} {Q : Exit → Act → World → Prop} {w0 : World} {N : Fr} {l : List Oper} {env : Env} {hp : List Item} {o : Oper}
theorem om_buildSlice {T E : TypeId} {n : Nat} {ps : Array (Nat × Operand)} {vs : List (Nat × Value)} {cs : List Value} (ho : o.op = .buildSlice T n ps) (hp_ : evP ps.toList env = some vs) (hT : P.underlying T = some (.slice E)) (hb : P.builtSlice E n vs = some cs.toArray) :
    OpM P o env w0 hp (fun b : Nat => .slice (some ⟨b, 0, none⟩) n n) (fun b => .blk b cs E) := by
  intro R a w he hh
  have hr : (execOp a.eval o).run P w = .ok (.value (.slice (some ⟨w.heap.size, 0, none⟩) n n)) (w.alloc (.cells cs.toArray E (0, 0))) := by
    have h1 := evPA_of he hp_
    unfold Program.builtSlice at hb
    cases hie : P.info? E with
    | none => simp [hie] at hb
    | some ie =>
      simp only [hie] at hb
      cases hz : ie.zero with
      | none => simp [hz] at hb
      | some z =>
        simp only [hz] at hb
        by_cases hc : n * ie.size > 2 ^ 24 ∨ n * ie.size = 0
        · simp [hc] at hb
        · rw [if_neg hc] at hb
          unfold execOp
          simp only [ho, Sem.run_bind]
          rw [h1, run_buildSlice w T E n _ cs.toArray ie z hT hie hz (fun h' => hc (Or.inl h')) (fun h' => hc (Or.inr h')) hb]
          rfl
  rw [hr]
  exact ⟨_, rfl, hh.allocRow cs E⟩
theorem OpE.any {ι : Type} {env' : Env} {X : List Item} {v : ι → Value} {X' : ι → List Item} (h : OpE P o env w0 hp X v X') (hsel : ∀ cs b, o.op ≠ .select cs b) (ha : ∀ t, .tmp t ∈ o.op.operands → look t env' = look t env) : OpE P o env' w0 hp X v X' := by
  classical
  intro R a w he hh
  let M := (env.map (·.1)).sum + a.tmps.size + 1
  have hM : M = (env.map (·.1)).sum + a.tmps.size + 1 := rfl
  let a2 : Act := { tmps := Array.ofFn (n := M) (fun t => if Operand.tmp t.1 ∈ o.op.operands then a.tmps.getD t.1 undef else (look t.1 env).getD undef), defers := [] }
  have hg : ∀ t, a2.tmps.getD t undef = if t < M then (if Operand.tmp t ∈ o.op.operands then a.tmps.getD t undef else (look t env).getD undef) else undef := by
    intro t
    by_cases ht : t < M
    · simp [a2, Array.getD_eq_getD_getElem?, ht]
    · simp [a2, Array.getD_eq_getD_getElem?, ht]
  have h2 : EnvOK env a2 := by
    intro t x hx
    have hm := look_mem hx
    have : t ≤ (env.map (·.1)).sum := sum_ge (List.mem_map.2 ⟨(t, x), hm, rfl⟩)
    rw [hg t, if_pos (by omega)]
    split
    · rename_i ho
      exact he t x (by rw [ha t ho]; exact hx)
    · rw [hx]; rfl
  have hev : execOp a2.eval o = execOp a.eval o := execOp_congr o hsel (fun x hx => by
    cases x with
    | tmp t =>
      show a2.tmps.getD t undef = a.tmps.getD t undef
      rw [hg t]
      by_cases ht : t < M
      · rw [if_pos ht, if_pos hx]
      · rw [if_neg ht]
        have : ¬ t < a.tmps.size := fun h => ht (Nat.lt_succ_of_le (Nat.le_trans (Nat.le_of_lt h) (Nat.le_add_left _ _)))
        simp [Array.getD_eq_getD_getElem?, this]
    | _ => rfl)
  have := h R a2 w h2 hh
  rw [hev] at this
  exact this
inductive ChainM (P : Program) (w0 : World) (hp : List Item) (ops : Array Oper) (M : List Nat) (N : Fr) : Nat → List Oper → Env → Env → Prop
  | nil (i : Nat) (env : Env) : ChainM P w0 hp ops M N i [] env []
  | part {i : Nat} {o : Oper} {l : List Oper} {env out : Env} {d : Nat} {v : Value} (hn : M.contains i = false) (h : Part P w0 hp ops o env d v) (k : ChainM P w0 hp ops M N (i + 1) l ((d, v) :: env) out) : ChainM P w0 hp ops M N i (o :: l) env ((d, v) :: out)
  | gap {i : Nat} {o : Oper} {l : List Oper} {env out : Env} (h : M.contains i = true) (k : ChainM P w0 hp ops M N (i + 1) l ((N.n, undef) :: env) out) : ChainM P w0 hp ops M N i (o :: l) env ((N.n, undef) :: out)
theorem ChainM.yield {M : List Nat} {i : Nat} {o : Oper} {l : List Oper} {env out : Env} {d : Nat} {v : Value} (hq : OpQ P o env w0 hp v) (hg : o.guard = none) (hd : o.dst = some d) (hn : M.contains i = false) (k : ChainM P w0 hp ops M N (i + 1) l ((d, v) :: env) out) : ChainM P w0 hp ops M N i (o :: l) env ((d, v) :: out) := .part hn ⟨hd, .inl ⟨hg, hq⟩⟩ k
theorem ChainM.want {M : List Nat} {i : Nat} {o : Oper} {l : List Oper} {env out : Env} {d j tj : Nat} {b : Bool} {v : Value} (hq : OpQ P o env w0 hp v) (hg : o.guard = some (j, b)) (hj : (ops[j]?).bind (·.dst) = some tj) (hb : look tj env = some (.bool b)) (hd : o.dst = some d) (hn : M.contains i = false) (k : ChainM P w0 hp ops M N (i + 1) l ((d, v) :: env) out) : ChainM P w0 hp ops M N i (o :: l) env ((d, v) :: out) := .part hn ⟨hd, .inr (.inl ⟨_, _, _, hg, hj, hb, hq⟩)⟩ k
theorem ChainM.skip {M : List Nat} {i : Nat} {o : Oper} {l : List Oper} {env out : Env} {d j tj : Nat} {b : Bool} (hg : o.guard = some (j, !b)) (hj : (ops[j]?).bind (·.dst) = some tj) (hb : look tj env = some (.bool b)) (hd : o.dst = some d) (hn : M.contains i = false) (k : ChainM P w0 hp ops M N (i + 1) l ((d, undef) :: env) out) : ChainM P w0 hp ops M N i (o :: l) env ((d, undef) :: out) := .part hn ⟨hd, .inr (.inr ⟨_, _, _, _, hg, hj, .inl (by rw [Bool.not_not]), hb, rfl⟩)⟩ k
theorem ChainM.parts {M : List Nat} {n : Nat} {l : List Oper} {env out : Env} (h : ChainM P w0 hp ops M N n l env out) : out.length = l.length ∧ ∀ i o, l[i]? = some o → (M.contains (n + i) = true ∧ out[i]? = some (N.n, undef)) ∨ ∃ d v, M.contains (n + i) = false ∧ out[i]? = some (d, v) ∧ Part P w0 hp ops o ((out.take i).reverse ++ env) d v := by
  induction h with
  | nil n env => exact ⟨rfl, fun i o h => by simp at h⟩
  | part hn hq k ih =>
    refine ⟨by simp [ih.1], fun i o h => ?_⟩
    cases i with
    | zero => cases h; exact .inr ⟨_, _, hn, rfl, hq⟩
    | succ i =>
      rcases ih.2 i o (by simpa using h) with ⟨h1, h2⟩ | ⟨d, v, h0, h1, h2⟩
      · exact .inl ⟨by rwa [Nat.add_assoc, Nat.add_comm 1 i] at h1, by simpa using h2⟩
      · exact .inr ⟨d, v, by rwa [Nat.add_assoc, Nat.add_comm 1 i] at h0, by simpa using h1, by simpa using h2⟩
  | gap hm k ih =>
    refine ⟨by simp [ih.1], fun i o h => ?_⟩
    cases i with
    | zero => cases h; exact .inl ⟨hm, rfl⟩
    | succ i =>
      rcases ih.2 i o (by simpa using h) with ⟨h1, h2⟩ | ⟨d, v, h0, h1, h2⟩
      · exact .inl ⟨by rwa [Nat.add_assoc, Nat.add_comm 1 i] at h1, by simpa using h2⟩
      · exact .inr ⟨d, v, by rwa [Nat.add_assoc, Nat.add_comm 1 i] at h0, by simpa using h1, by simpa using h2⟩
def okDrawE (ol : List Oper) (m N : Nat) (M : List Nat) : Bool :=
  let ms := masksOf ol []
  ((List.range ol.length).all fun i => ((ol[i]?).map fun o => o.after.all fun e => !Region.binds .any e || decide (e.on < i)).getD true) &&
  ((List.range m).all fun i => match ol[i]? with
    | some o => selB o && ((match o.dst with | some d => decide (d < N) | none => M.contains i) && (!(o.looksAt ol.toArray).contains N && ((!M.contains i || o.guard.isNone) &&
      (List.range m).all fun j => match ol[j]? with
        | some o' => (match o'.dst with
          | some t => (decide (i = j) || o.dst != some t) && (!(o.looksAt ol.toArray).contains t || (!M.contains j && ((decide (j < i) && (ms.getD i 0).testBit j) || (decide (i < j) && (ms.getD j 0).testBit i))))
          | none => true)
        | none => false)))
    | none => false) &&
  (((List.range (ol.length - m)).all fun k => (List.range (m + k)).all fun j => (ms.getD (m + k) 0).testBit j) && (decide M.Nodup && M.all (fun p => decide (p < m))))
structure DrawE (ol : List Oper) (m N : Nat) (M : List Nat) : Prop where
  on : (List.range ol.toArray.size).all (fun i => ((ol.toArray[i]?).map fun o => o.after.all fun e => !Region.binds .any e || decide (e.on < i)).getD true) = true
  sel : ∀ i o, i < m → ol[i]? = some o → ∀ cs b, o.op ≠ .select cs b
  dst : ∀ i o, i < m → ol[i]? = some o → i ∉ M → ∃ d, o.dst = some d
  lt : ∀ i o d, i < m → ol[i]? = some o → o.dst = some d → d < N
  noN : ∀ i o, i < m → ol[i]? = some o → N ∉ o.looksAt ol.toArray
  guard : ∀ i o, i < m → ol[i]? = some o → i ∈ M → o.guard = none
  uniq : ∀ i j o o' d, i < m → j < m → ol[i]? = some o → ol[j]? = some o' → o.dst = some d → o'.dst = some d → i = j
  reads : ∀ i j o o' t, i < m → j < m → ol[i]? = some o → ol[j]? = some o' → o'.dst = some t → t ∈ o.looksAt ol.toArray → j ∉ M ∧ ((j < i ∧ ((masksOf ol []).getD i 0).testBit j = true) ∨ (i < j ∧ ((masksOf ol []).getD j 0).testBit i = true))
  late : ∀ i j, m ≤ i → i < ol.length → j < i → ((masksOf ol []).getD i 0).testBit j = true
  m_le : ∀ i, i < m → ∃ o, ol[i]? = some o
  nodup : M.Nodup
  ltm : ∀ p ∈ M, p < m
theorem okDrawE_spec {ol : List Oper} {m N : Nat} {M : List Nat} (h : okDrawE ol m N M = true) : DrawE ol m N M := by
  simp only [okDrawE, Bool.and_eq_true, decide_eq_true_eq] at h
  obtain ⟨⟨h1, h2⟩, h3, h4, h5⟩ := h
  have key : ∀ i, i < m → ∃ o, ol[i]? = some o ∧ selB o = true ∧ ((∃ d, o.dst = some d ∧ d < N) ∨ (o.dst = none ∧ i ∈ M)) ∧ N ∉ o.looksAt ol.toArray ∧ (i ∈ M → o.guard = none) ∧
      ∀ j o' t, j < m → ol[j]? = some o' → o'.dst = some t → (i = j ∨ o.dst ≠ some t) ∧ (t ∈ o.looksAt ol.toArray → j ∉ M ∧ ((j < i ∧ ((masksOf ol []).getD i 0).testBit j = true) ∨ (i < j ∧ ((masksOf ol []).getD j 0).testBit i = true))) := by
    intro i hi
    have := List.all_eq_true.1 h2 i (List.mem_range.2 hi)
    split at this
    · rename_i o ho
      simp only [Bool.and_eq_true] at this
      obtain ⟨hs, hd, hn, hg, hj⟩ := this
      refine ⟨o, ho, hs, ?_, ?_, ?_, ?_⟩
      · split at hd
        · rename_i d hd'
          exact .inl ⟨d, hd', by simpa using hd⟩
        · rename_i hd'
          exact .inr ⟨hd', List.contains_iff_mem.1 hd⟩
      · intro hm
        rw [List.contains_iff_mem.2 hm] at hn
        cases hn
      · intro hm
        rw [List.contains_iff_mem.2 hm] at hg
        simpa using hg
      · intro j o' t hjm ho' hd'
        have := List.all_eq_true.1 hj j (List.mem_range.2 hjm)
        rw [ho'] at this
        simp only [hd'] at this
        simp only [Bool.and_eq_true, Bool.or_eq_true, decide_eq_true_eq, bne_iff_ne, Bool.not_eq_true'] at this
        refine ⟨this.1, fun hl => ?_⟩
        rcases this.2 with h6 | ⟨h6, h7⟩
        · rw [List.contains_iff_mem.2 hl] at h6; cases h6
        · exact ⟨(fun hm => by rw [List.contains_iff_mem.2 hm] at h6; cases h6), h7⟩
    · cases this
  have keyo : ∀ i o, i < m → ol[i]? = some o → selB o = true ∧ ((∃ d, o.dst = some d ∧ d < N) ∨ (o.dst = none ∧ i ∈ M)) ∧ N ∉ o.looksAt ol.toArray ∧ (i ∈ M → o.guard = none) ∧
      ∀ j o' t, j < m → ol[j]? = some o' → o'.dst = some t → (i = j ∨ o.dst ≠ some t) ∧ (t ∈ o.looksAt ol.toArray → j ∉ M ∧ ((j < i ∧ ((masksOf ol []).getD i 0).testBit j = true) ∨ (i < j ∧ ((masksOf ol []).getD j 0).testBit i = true))) := by
    intro i o hi ho
    obtain ⟨o2, ho2, h⟩ := key i hi
    rw [ho] at ho2; cases ho2
    exact h
  refine ⟨by simpa using h1, ?_, ?_, ?_, ?_, ?_, ?_, ?_, ?_, ?_, h4, ?_⟩
  · intro i o hi ho cs b e
    have := (keyo i o hi ho).1
    simp [selB, e] at this
  · intro i o hi ho hm
    rcases (keyo i o hi ho).2.1 with ⟨d, hd, _⟩ | ⟨_, h⟩
    · exact ⟨d, hd⟩
    · exact absurd h hm
  · intro i o d hi ho hd
    rcases (keyo i o hi ho).2.1 with ⟨d', hd', hl⟩ | ⟨h, _⟩
    · rw [hd] at hd'; cases hd'; exact hl
    · rw [hd] at h; cases h
  · exact fun i o hi ho => (keyo i o hi ho).2.2.1
  · exact fun i o hi ho => (keyo i o hi ho).2.2.2.1
  · intro i j o o' d hi hj ho ho' hd hd'
    rcases ((keyo i o hi ho).2.2.2.2 j o' d hj ho' hd').1 with h | h
    · exact h
    · exact absurd hd h
  · exact fun i j o o' t hi hj ho ho' hd hl => ((keyo i o hi ho).2.2.2.2 j o' t hj ho' hd).2 hl
  · intro i j hi hl hj
    have := List.all_eq_true.1 h3 (i - m) (List.mem_range.2 (by omega))
    have := List.all_eq_true.1 this j (List.mem_range.2 (by omega))
    rwa [show m + (i - m) = i by omega] at this
  · intro i hi
    obtain ⟨o, ho, _⟩ := key i hi
    exact ⟨o, ho⟩
  · exact fun p hp => by simpa using List.all_eq_true.1 h5 p hp
theorem permOf : ∀ {M S : List Nat}, M.Nodup → S.Nodup → (∀ p, p ∈ S ↔ p ∈ M) → S.Perm M
  | [], S, _, _, h => by
    have : S = [] := List.eq_nil_iff_forall_not_mem.2 (fun p hp => by have := (h p).1 hp; cases this)
    rw [this]
  | p :: M, S, hM, hS, h => by
    have hpS : p ∈ S := (h p).2 List.mem_cons_self
    refine (List.perm_cons_erase hpS).trans (List.Perm.cons p (permOf (List.nodup_cons.1 hM).2 (hS.erase p) (fun q => ?_)))
    rw [hS.mem_erase_iff, h q, List.mem_cons]
    constructor
    · rintro ⟨h1, h2 | h2⟩
      · exact absurd h2 h1
      · exact h2
    · intro h2
      exact ⟨fun e => (List.nodup_cons.1 hM).1 (e ▸ h2), .inr h2⟩
theorem exX {ι : Type} [Nonempty ι] : ∀ (seq : List (Nat × ι)), (seq.map (·.1)).Nodup → ∃ X : Nat → ι, ∀ s ∈ seq, X s.1 = s.2
  | [], _ => ⟨fun _ => Classical.choice ‹_›, fun s h => by cases h⟩
  | (p, x) :: seq, h => by
    obtain ⟨X, hX⟩ := exX seq (List.nodup_cons.1 h).2
    refine ⟨fun q => if q = p then x else X q, fun s hs => ?_⟩
    rcases List.mem_cons.1 hs with rfl | hs
    · simp
    · have : s.1 ≠ p := fun e => (List.nodup_cons.1 h).1 (e ▸ List.mem_map.2 ⟨s, hs, rfl⟩)
      simp only [if_neg this]
      exact hX s hs
theorem flat_congr {α β : Type} {f g : α → List β} : ∀ {l : List α}, (∀ x ∈ l, f x = g x) → l.flatMap f = l.flatMap g
  | [], _ => rfl
  | x :: l, h => by rw [List.flatMap_cons, List.flatMap_cons, h x List.mem_cons_self, flat_congr (fun y hy => h y (List.mem_cons_of_mem _ hy))]
theorem look_congr {t : Nat} : ∀ {A B B' : Env}, look t B = look t B' → look t (A ++ B) = look t (A ++ B')
  | [], _, _, h => h
  | (u, x) :: A, B, B', h => by
    rw [List.cons_append, List.cons_append, look_cons, look_cons, look_congr h]
def WA (P : Program) (ol : List Oper) (Q : Exit → Act → World → Prop) (w0 : World) (N : Fr) (env : Env) (hp : List Item) : Prop := ∀ a w, Holds w0 N env hp a w → wpAny P .any ol.toArray Q ol.toArray.size (Array.replicate ol.toArray.size false) a { w with drawn := w.drawn + 1 }
theorem wc_any {id : Nat} {ol : List Oper} (hm : P.follows .mixedOrders = true) (h : WA P ol Q w0 N env hp) : WC P (.region id ol.toArray true) Q w0 N env hp := fun a w hh => wp_region_any hm (h a w hh)
theorem any_drawE {ι : Type} [Nonempty ι] {ol : List Oper} {out : Env} {hp0 : List Item} (m : Nat) (M : List Nat) (dm : Nat → Option Nat) (v : Nat → ι → Value) (X : Nat → List Item) (X' : Nat → ι → List Item) (hok : okDrawE ol m N M = true) (hc : ChainM P w0 hp ol.toArray M N 0 (ol.take m) env out)
    (hM : ∀ p ∈ M, ∃ o, ol[p]? = some o ∧ o.dst = dm p ∧ OpE P o ((out.take p).reverse ++ env) w0 hp (X p) (v p) (X' p)) (hX : hp0 = M.flatMap X ++ hp)
    (k : ∀ x : Nat → ι, WL P ol.toArray Q w0 N (ol.drop m) (M.filterMap (fun p => (dm p).map fun d => (d, v p (x p))) ++ (out.reverse ++ env)) (M.flatMap (fun p => X' p (x p)) ++ hp)) :
    WA P ol Q w0 N env hp0 := by
  intro a w hh
  subst hX
  have D := okDrawE_spec hok
  obtain ⟨hlen, hparts⟩ := hc.parts
  have hml : m ≤ ol.length := by
    rcases Nat.eq_zero_or_pos m with h | h
    · omega
    · obtain ⟨o, ho⟩ := D.m_le (m - 1) (by omega)
      have := (List.getElem?_eq_some_iff.1 ho).1
      omega
  have hlen' : out.length = m := by rw [hlen, List.length_take]; omega
  have hget : ∀ i o, i < m → ol[i]? = some o → (i ∈ M ∧ out[i]? = some (N.n, undef)) ∨ ∃ d v, i ∉ M ∧ out[i]? = some (d, v) ∧ Part P w0 hp ol.toArray o ((out.take i).reverse ++ env) d v := fun i o hi ho => by
    rcases hparts i o (by rw [List.getElem?_take, if_pos hi]; exact ho) with ⟨h1, h2⟩ | ⟨d, v, h0, h1, h2⟩
    · rw [Nat.zero_add] at h1; exact .inl ⟨List.contains_iff_mem.1 h1, h2⟩
    · rw [Nat.zero_add] at h0; exact .inr ⟨d, v, (fun h => by rw [List.contains_iff_mem.2 h] at h0; cases h0), h1, h2⟩
  have hdmM : ∀ p ∈ M, p < m ∧ (∃ o, ol[p]? = some o ∧ o.guard = none ∧ o.dst = dm p) ∧ ∀ d, dm p = some d → d < N.n ∧ ∀ i o', i < m → ol[i]? = some o' → d ∉ o'.looksAt ol.toArray := by
    intro p hpM
    have h1 := D.ltm p hpM
    obtain ⟨o, ho, hd, _⟩ := hM p hpM
    refine ⟨h1, ⟨o, ho, D.guard p o h1 ho hpM, hd⟩, fun d hd2 => ⟨D.lt p o d h1 ho (hd.trans hd2), fun i o' hi ho' hl => ?_⟩⟩
    exact (D.reads i p o' o d hi h1 ho' ho (hd.trans hd2) hl).1 hpM
  have hreal : ∀ (i d : Nat) (v : Value), out[i]? = some (d, v) → d ≠ N → i ∉ M ∧ ∃ o, i < m ∧ ol[i]? = some o ∧ o.dst = some d := by
    intro i d v h hdN
    have hi : i < m := by have := (List.getElem?_eq_some_iff.1 h).1; omega
    obtain ⟨o, ho⟩ := D.m_le i hi
    rcases hget i o hi ho with ⟨_, h2⟩ | ⟨d', v', h0, h1, h2⟩
    · rw [h] at h2; cases h2; exact absurd rfl hdN
    · rw [h] at h1; cases h1
      exact ⟨h0, o, hi, ho, h2.1⟩
  have huniq : ∀ (i j d : Nat) (v v' : Value), d ≠ N → out[i]? = some (d, v) → out[j]? = some (d, v') → i = j := by
    intro i j d v v' hdN h1 h2
    obtain ⟨_, o, hi, ho, hd⟩ := hreal i d v h1 hdN
    obtain ⟨_, o', hj, ho', hd'⟩ := hreal j d v' h2 hdN
    exact D.uniq i j o o' d hi hj ho ho' hd hd'
  have hundef : ∀ (i : Nat) (v : Value), out[i]? = some (N.n, v) → v = undef := by
    intro i v h
    have hi : i < m := by have := (List.getElem?_eq_some_iff.1 h).1; omega
    obtain ⟨o, ho⟩ := D.m_le i hi
    rcases hget i o hi ho with ⟨_, h2⟩ | ⟨d', v', h0, h1, h2⟩
    · rw [h] at h2; cases h2; rfl
    · rw [h] at h1; cases h1
      exact absurd (D.lt i o _ hi ho h2.1) (Nat.lt_irrefl _)
  have hval : ∀ (i j d : Nat) (v v' : Value), out[i]? = some (d, v) → out[j]? = some (d, v') → v = v' := by
    intro i j d v v' h1 h2
    by_cases hdN : d = N
    · subst hdN; rw [hundef i v h1, hundef j v' h2]
    · have := huniq i j d v v' hdN h1 h2
      subst this
      rw [h1] at h2; cases h2; rfl
  have inCome : ∀ (l : Array Bool) (t j : Nat) (v' : Value), l.getD j false = true → out[j]? = some (t, v') → look t (come out l env) = some v' := fun l t j v' hl hj => look_in (come_mem hl hj) (fun x hx => by
    obtain ⟨q, _, hq⟩ := mem_come hx
    exact hval q j t x v' hq hj)
  have offCome : ∀ (l : Array Bool) (t : Nat), (∀ j v', l.getD j false = true → out[j]? ≠ some (t, v')) → look t (come out l env) = look t env := fun l t h => look_app (fun p hp e => by
    obtain ⟨q, hq1, hq2⟩ := mem_come hp
    obtain ⟨pt, pv⟩ := p
    simp only at e
    subst e
    exact h q pv hq1 hq2)
  have hgood := masks_good ol ol [] rfl (fun i j h => by simp at h)
  let Dn (l : Array Bool) : Prop := ∀ i, (l.getD i false = true) → Afters ol (fun i => l.getD i false = true) i
  have agree : ∀ (l : Array Bool) (i : Nat) (o : Oper) (t : Nat), Dn l → i < m → ol[i]? = some o → l.getD i false = false → Afters ol (fun i => l.getD i false = true) i → t ∈ o.looksAt ol.toArray → look t (come out l env) = look t ((out.take i).reverse ++ env) := by
    intro l i o t hdn hi ho hni hai ht
    have htN : t ≠ N.n := fun e => D.noN i o hi ho (e ▸ ht)
    have anc : ∀ j, ((masksOf ol []).getD i 0).testBit j = true → l.getD j false = true := fun j hj => hgood i j hj _ (fun q hq => hdn q hq) hai
    by_cases hex : ∃ (j : Nat) (v' : Value), out[j]? = some (t, v')
    · obtain ⟨j, v', hj⟩ := hex
      obtain ⟨_, oj, hjm, hoj, hdj⟩ := hreal j t v' hj htN
      rcases (D.reads i j o oj t hi hjm ho hoj hdj ht).2 with ⟨h3, h4⟩ | ⟨h3, h4⟩
      · have e2 : look t ((out.take i).reverse ++ env) = some v' := look_in (by
          rw [List.mem_reverse]
          exact List.mem_of_getElem? (i := j) (by rw [List.getElem?_take, if_pos h3]; exact hj)) (fun x hx => by
          rw [List.mem_reverse] at hx
          obtain ⟨q, hq1, hq2⟩ := List.mem_iff_getElem.1 (List.mem_of_mem_take hx)
          have hq : out[q]? = some (t, x) := by rw [List.getElem?_eq_getElem hq1, hq2]
          exact hval q j t x v' hq hj)
        rw [inCome l t j v' (anc j h4) hj, e2]
      · have hnl : ¬ l.getD j false = true := by
          intro hlj
          have := hgood j i h4 _ (fun q hq => hdn q hq) (hdn j hlj)
          rw [hni] at this
          cases this
        have e1 := offCome l t (fun q x hq1 hq2 => by
          have := huniq q j t x v' htN hq2 hj
          subst this
          exact hnl hq1)
        have e2 : look t ((out.take i).reverse ++ env) = look t env := look_app (fun p hp e => by
          rw [List.mem_reverse] at hp
          obtain ⟨q, hq1, hq2⟩ := List.mem_iff_getElem.1 hp
          obtain ⟨pt, pv⟩ := p
          simp only at e
          subst e
          have hq3 : q < i := by simp at hq1; omega
          have hq : out[q]? = some (pt, pv) := by
            have : (out.take i)[q]? = some (pt, pv) := by rw [List.getElem?_eq_getElem hq1, hq2]
            rw [List.getElem?_take, if_pos hq3] at this
            exact this
          have := huniq q j _ pv v' htN hq hj
          omega)
        rw [e1, e2]
    · have e2 : look t ((out.take i).reverse ++ env) = look t env := look_app (fun p hp e => by
        rw [List.mem_reverse] at hp
        obtain ⟨pt, pv⟩ := p
        simp only at e
        subst e
        obtain ⟨q, hq1, hq2⟩ := List.mem_iff_getElem.1 (List.mem_of_mem_take hp)
        exact hex ⟨q, pv, by rw [List.getElem?_eq_getElem hq1, hq2]⟩)
      rw [offCome l t (fun j v' _ h => hex ⟨j, v', h⟩), e2]
  let SE (seq : List (Nat × ι)) : Env := seq.filterMap (fun s => (dm s.1).map fun d => (d, v s.1 s.2))
  have memSE : ∀ (seq : List (Nat × ι)) (t : Nat) (y : Value), (t, y) ∈ SE seq → ∃ s ∈ seq, dm s.1 = some t ∧ y = v s.1 s.2 := by
    intro seq t y h
    obtain ⟨s, hs, he⟩ := List.mem_filterMap.1 h
    cases hd : dm s.1 with
    | none => rw [hd] at he; cases he
    | some d =>
      rw [hd] at he
      cases he
      exact ⟨s, hs, hd, rfl⟩
  have sE : ∀ (seq : List (Nat × ι)) (t : Nat) (B : Env), (∀ s ∈ seq, s.1 ∈ M) → (∀ p ∈ M, dm p ≠ some t) → look t (SE seq ++ B) = look t B := fun seq t B h1 h2 => look_app (fun p hp e => by
    obtain ⟨pt, pv⟩ := p
    obtain ⟨s, hs, hd, _⟩ := memSE seq pt pv hp
    exact h2 s.1 (h1 s hs) (hd.trans (congrArg some e)))
  let St (l : Array Bool) (a : Act) (w : World) : Prop := ∃ seq : List (Nat × ι), (seq.map (·.1)).Nodup ∧ (∀ p, p ∈ seq.map (·.1) ↔ p ∈ M ∧ l.getD p false = true) ∧ Holds w0 N (SE seq ++ come out l env) (seq.flatMap (fun s => X' s.1 s.2) ++ ((M.filter fun p => !l.getD p false).flatMap X ++ hp)) a w
  have fin : ∀ (l : Array Bool) (a : Act) (w : World), (∀ j, j < m → l.getD j false = true) → St l a w → wpList P ol.toArray Q (ol.drop m) a w := by
    rintro l a w hall ⟨seq, hnd, hmem, hH⟩
    obtain ⟨xf, hxf⟩ := exX seq hnd
    have hmem' : ∀ p, p ∈ seq.map (·.1) ↔ p ∈ M := fun p => ⟨fun h => ((hmem p).1 h).1, fun h => (hmem p).2 ⟨h, hall p (hdmM p h).1⟩⟩
    have hsM : ∀ s ∈ seq, s.1 ∈ M := fun s hs => (hmem' s.1).1 (List.mem_map.2 ⟨s, hs, rfl⟩)
    have hdinj : ∀ p ∈ M, ∀ q ∈ M, ∀ d, dm p = some d → dm q = some d → p = q := fun p hp q hq d e e' => by
      obtain ⟨h1, ⟨o, ho, _, hd⟩, _⟩ := hdmM p hp
      obtain ⟨h2, ⟨o', ho', _, hd'⟩, _⟩ := hdmM q hq
      exact D.uniq p q o o' d h1 h2 ho ho' (hd.trans e) (hd'.trans e')
    have hnone : (M.filter fun p => !l.getD p false) = [] := List.filter_eq_nil_iff.2 (fun p hp => by rw [hall p (hdmM p hp).1]; simp)
    have heH : seq.flatMap (fun s => X' s.1 s.2) = (seq.map (·.1)).flatMap (fun p => X' p (xf p)) := by
      rw [List.flatMap_map]
      exact flat_congr (fun s hs => by simp [hxf s hs])
    rw [hnone] at hH
    refine k xf a w ⟨hH.size, hH.defers, ?_, hH.heap.perm ?_⟩
    · intro t x hx
      refine hH.env t x ?_
      rw [← hx]
      by_cases hex : ∃ p ∈ M, dm p = some t
      · obtain ⟨p, hpM, hpd⟩ := hex
        obtain ⟨s, hs, hsp⟩ := List.mem_map.1 ((hmem' p).2 hpM)
        subst hsp
        have e1 : look t (SE seq ++ come out l env) = some (v s.1 s.2) := look_in (List.mem_filterMap.2 ⟨s, hs, by rw [hpd]; rfl⟩) (fun x hx => by
          obtain ⟨s', hs', he, hv'⟩ := memSE seq t x hx
          have := hdinj _ (hsM s' hs') _ hpM t he hpd
          rw [hv', ← hxf s' hs', ← hxf s hs, this])
        have e2 : look t (M.filterMap (fun p => (dm p).map fun d => (d, v p (xf p))) ++ (out.reverse ++ env)) = some (v s.1 s.2) := look_in (List.mem_filterMap.2 ⟨s.1, hpM, by rw [hpd, ← hxf s hs]; rfl⟩) (fun x hx => by
          obtain ⟨q, hq, he⟩ := List.mem_filterMap.1 hx
          cases hd : dm q with
          | none => rw [hd] at he; cases he
          | some d =>
            rw [hd] at he
            cases he
            have := hdinj _ hq _ hpM t hd hpd
            rw [this, hxf s hs])
        rw [e1, e2]
      · have hno : ∀ p ∈ M, dm p ≠ some t := fun p hp e => hex ⟨p, hp, e⟩
        rw [sE seq t _ hsM hno]
        have e3 : look t (M.filterMap (fun p => (dm p).map fun d => (d, v p (xf p))) ++ (out.reverse ++ env)) = look t (out.reverse ++ env) := look_app (fun p hp e => by
          obtain ⟨q, hq, he⟩ := List.mem_filterMap.1 hp
          cases hd : dm q with
          | none => rw [hd] at he; cases he
          | some d =>
            rw [hd] at he
            cases he
            exact hno q hq (hd.trans (congrArg some e)))
        rw [e3]
        by_cases hex2 : ∃ (j : Nat) (v' : Value), out[j]? = some (t, v')
        · obtain ⟨j, v', hj⟩ := hex2
          have hjm : j < m := by have := (List.getElem?_eq_some_iff.1 hj).1; omega
          have e2 : look t (out.reverse ++ env) = some v' := look_in (List.mem_reverse.2 (List.mem_of_getElem? hj)) (fun x hx => by
            rw [List.mem_reverse] at hx
            obtain ⟨q, hq1, hq2⟩ := List.mem_iff_getElem.1 hx
            have hq : out[q]? = some (t, x) := by rw [List.getElem?_eq_getElem hq1, hq2]
            exact hval q j t x v' hq hj)
          rw [inCome l t j v' (hall j hjm) hj, e2]
        · have e2 : look t (out.reverse ++ env) = look t env := look_app (fun p hp e => by
            rw [List.mem_reverse] at hp
            obtain ⟨pt, pv⟩ := p
            simp only at e
            subst e
            obtain ⟨q, hq1, hq2⟩ := List.mem_iff_getElem.1 hp
            exact hex2 ⟨q, pv, by rw [List.getElem?_eq_getElem hq1, hq2]⟩)
          rw [offCome l t (fun j v' _ h => hex2 ⟨j, v', h⟩), e2]
    · rw [heH]
      exact List.Perm.append_right hp ((permOf D.nodup hnd hmem').flatMap_right _)
  refine wpAny_inv (fun l a w => Dn l ∧ ((∀ i, m ≤ i → l.getD i false = false) ∧ St l a w ∨ ∃ k, m < k ∧ k ≤ ol.length ∧ (∀ i, l.getD i false = true ↔ i < k) ∧ wpList P ol.toArray Q (ol.drop k) a w)) ?_ ?_ (ends_of D.on) _ _ _ _ (by simp) ?_ ?_
  · rintro l a w i ⟨hdn, hI⟩ hls hi hni hr
    have hni' : l.getD i false = false := by
      have hil : i < l.size := by rw [hls]; exact hi
      have : l.getD i true = l.getD i false := by simp [Array.getD_eq_getD_getElem?, hil]
      rw [← this, hni]
    have hi' : i < ol.length := by simpa using hi
    have ho : ol[i]? = some ol[i] := List.getElem?_eq_getElem hi'
    have hoa : ol.toArray[i]? = some ol[i] := by simp
    have hset : ∀ j, (l.setIfInBounds i true).getD j false = true ↔ j = i ∨ l.getD j false = true := by
      intro j
      by_cases e : j = i
      · subst e
        rw [getD_set_self l j false (by rw [hls]; exact hi)]
        simp
      · rw [getD_set_other l i j false (Ne.symm e)]
        simp [e]
    have hai : Afters ol (fun i => l.getD i false = true) i := fun o ho' e he hb => by
      rw [ho] at ho'; cases ho'
      exact hr _ hoa e he hb
    have hdn' : Dn (l.setIfInBounds i true) := by
      intro j hj o hoj e he hb
      rcases (hset j).1 hj with rfl | hj
      · exact (hset _).2 (.inr (hai o hoj e he hb))
      · exact (hset _).2 (.inr (hdn j hj o hoj e he hb))
    have anc : ∀ j, ((masksOf ol []).getD i 0).testBit j = true → l.getD j false = true := fun j hj => hgood i j hj _ (fun q hq => hdn q hq) hai
    have hlate' : (∀ j, m ≤ j → l.getD j false = false) → i < m → ∀ j, m ≤ j → (l.setIfInBounds i true).getD j false = false := by
      intro hlate him j hj
      cases hv : (l.setIfInBounds i true).getD j false with
      | false => rfl
      | true =>
        rcases (hset j).1 hv with rfl | h
        · omega
        · rw [hlate j hj] at h; cases h
    have comeSet : ∀ (t d : Nat) (x : Value), out[i]? = some (d, x) → t ≠ d → look t (come out (l.setIfInBounds i true) env) = look t (come out l env) := by
      intro t d x h1 hne
      by_cases hex : ∃ (j : Nat) (v' : Value), out[j]? = some (t, v') ∧ l.getD j false = true
      · obtain ⟨j, v', hj, hlj⟩ := hex
        rw [inCome _ t j v' ((hset j).2 (.inr hlj)) hj, inCome l t j v' hlj hj]
      · rw [offCome _ t (fun j v' hl h => by
          rcases (hset j).1 hl with rfl | hl
          · rw [h1] at h; cases h; exact hne rfl
          · exact hex ⟨j, v', h, hl⟩), offCome l t (fun j v' hl h => hex ⟨j, v', h, hl⟩)]
    rcases hI with ⟨hlate, seq, hnd, hmem, hH⟩ | ⟨k', hk, hkl, hl, hwp⟩
    · have hsM : ∀ s ∈ seq, s.1 ∈ M := fun s hs => ((hmem s.1).1 (List.mem_map.2 ⟨s, hs, rfl⟩)).1
      by_cases him : i < m
      · have hag : ∀ t ∈ (ol[i]).looksAt ol.toArray, look t (SE seq ++ come out l env) = look t ((out.take i).reverse ++ env) := by
          intro t ht
          rw [sE seq t _ hsM (fun p hpM e => ((hdmM p hpM).2.2 t e).2 i _ him ho ht)]
          exact agree l i _ t hdn him ho hni' hai ht
        rcases hget i _ him ho with ⟨hiM, h1⟩ | ⟨d, x, hiM, h1, h2⟩
        · obtain ⟨_, ⟨o2, ho2, hg2, hd2⟩, hdd⟩ := hdmM i hiM
          obtain ⟨o3, ho3, _, hop⟩ := hM i hiM
          rw [ho] at ho2 ho3; cases ho2; cases ho3
          unfold Go.wpOp
          simp only [hoa]
          rw [if_pos (by simp [Region.wanted, hg2])]
          have hperm : (M.filter fun p => !l.getD p false).Perm (i :: M.filter fun p => !(l.setIfInBounds i true).getD p false) := by
            refine permOf ?_ (D.nodup.filter _) (fun p => ?_)
            · rw [List.nodup_cons]
              refine ⟨fun h => ?_, D.nodup.filter _⟩
              have := (List.mem_filter.1 h).2
              rw [(hset i).2 (.inl rfl)] at this
              cases this
            · rw [List.mem_filter, List.mem_cons, List.mem_filter]
              by_cases hpi : p = i
              · subst hpi
                simp [hiM, hni']
              · have : (l.setIfInBounds i true).getD p false = l.getD p false := getD_set_other l i p false (fun e => hpi e.symm)
                rw [this]
                simp [hpi]
          have hH2 : HeapOK w0 (X i ++ ((seq.flatMap (fun s => X' s.1 s.2) ++ (M.filter fun p => !(l.setIfInBounds i true).getD p false).flatMap X) ++ hp)) w := by
            refine hH.heap.perm ?_
            rw [← List.append_assoc, ← List.append_assoc]
            refine List.Perm.append_right hp ?_
            refine (List.Perm.append_left _ (hperm.flatMap_right X)).trans ?_
            rw [List.flatMap_cons, ← List.append_assoc, ← List.append_assoc]
            exact List.Perm.append_right _ List.perm_append_comm
          refine .inl ((hop.any (D.sel i _ him ho) (fun t ht => hag t (List.mem_append_left _ (List.mem_filterMap.2 ⟨.tmp t, by simpa using ht, rfl⟩)))).wp hH.env hH2 (fun x w' hh' => ?_))
          refine ⟨hdn', .inl ⟨hlate' hlate him, (i, x) :: seq, ?_, ?_, ?_⟩⟩
          · rw [List.map_cons, List.nodup_cons]
            refine ⟨fun h => ?_, hnd⟩
            have := ((hmem i).1 h).2
            rw [hni'] at this; cases this
          · intro p
            rw [List.map_cons, List.mem_cons, hmem p, hset p]
            constructor
            · rintro (rfl | ⟨h3, h4⟩)
              · exact ⟨hiM, .inl rfl⟩
              · exact ⟨h3, .inr h4⟩
            · rintro ⟨h3, rfl | h4⟩
              · exact .inl rfl
              · exact .inr ⟨h3, h4⟩
          · rw [hd2]
            have hh2 : HeapOK w0 (((i, x) :: seq).flatMap (fun s => X' s.1 s.2) ++ ((M.filter fun p => !(l.setIfInBounds i true).getD p false).flatMap X ++ hp)) w' := by
              rw [List.flatMap_cons]
              simpa only [List.append_assoc] using hh'
            have hseq : ∀ s ∈ (i, x) :: seq, s.1 ∈ M := fun s hs => by
              rcases List.mem_cons.1 hs with rfl | hs
              · exact hiM
              · exact hsM s hs
            have hN : look N.n (SE ((i, x) :: seq) ++ come out (l.setIfInBounds i true) env) = some undef := by
              rw [sE ((i, x) :: seq) N.n _ hseq (fun p hpM e => absurd ((hdmM p hpM).2.2 _ e).1 (Nat.lt_irrefl _))]
              exact inCome _ N.n i undef ((hset i).2 (.inl rfl)) h1
            have hup : ∀ (b : Act), b.tmps.size = N.n → EnvOK (SE ((i, x) :: seq) ++ come out l env) b → EnvOK (SE ((i, x) :: seq) ++ come out (l.setIfInBounds i true) env) b := by
              intro b hb hE t y hy
              by_cases htN : t = N.n
              · subst htN
                rw [hN] at hy
                cases hy
                simp [Array.getD_eq_getD_getElem?, ← hb]
              · refine hE t y ?_
                rw [← hy]
                exact look_congr (comeSet t N.n undef h1 htN).symm
            cases hd : dm i with
            | none =>
              refine ⟨hH.size, hH.defers, hup _ hH.size ?_, hh2⟩
              have : SE ((i, x) :: seq) = SE seq := by
                show List.filterMap _ _ = _
                rw [List.filterMap_cons, hd]
                rfl
              rw [this]
              exact hH.env
            | some d =>
              have hp1 := hH.put d (v i x) (hdd d hd).1 hh2
              refine ⟨hp1.size, hp1.defers, hup _ hp1.size ?_, hh2⟩
              have : SE ((i, x) :: seq) = (d, v i x) :: SE seq := by
                show List.filterMap _ _ = _
                rw [List.filterMap_cons, hd]
                rfl
              rw [this]
              exact hp1.env
        · refine h2.wpOp hoa (D.sel i _ him ho) hag hH.env (hH.heap.sub ((List.sublist_append_right _ _).trans (List.sublist_append_right _ _))) ?_
          intro w' hb
          refine ⟨hdn', .inl ⟨hlate' hlate him, seq, hnd, ?_, ?_⟩⟩
          · intro p
            rw [hmem p, hset p]
            constructor
            · rintro ⟨h3, h4⟩; exact ⟨h3, .inr h4⟩
            · rintro ⟨h3, rfl | h4⟩
              · exact absurd h3 hiM
              · exact ⟨h3, h4⟩
          · have hfil : (M.filter fun p => !(l.setIfInBounds i true).getD p false) = M.filter fun p => !l.getD p false := List.filter_congr (fun p hp => by
              have : p ≠ i := fun e => hiM (e ▸ hp)
              rw [getD_set_other l i p false (fun e => this e.symm)])
            rw [hfil]
            have hdN := D.lt i _ d him ho h2.1
            obtain ⟨d', hdd⟩ : ∃ d', d' = d := ⟨d, rfl⟩
            subst hdd
            have hp1 := hH.put d' x hdN (hH.heap.below hb)
            refine ⟨hp1.size, hp1.defers, ?_, hp1.heap⟩
            intro t y hy
            have hnoM : ∀ p ∈ M, dm p ≠ some d' := fun p hpM e => by
              obtain ⟨q1, ⟨o2, ho2, _, hd2⟩, _⟩ := hdmM p hpM
              have := D.uniq p i o2 _ d' q1 him ho2 ho (hd2.trans e) h2.1
              exact hiM (this ▸ hpM)
            by_cases e : t = d'
            · subst e
              rw [sE seq t _ hsM hnoM, inCome _ t i x ((hset i).2 (.inl rfl)) h1] at hy
              cases hy
              exact hp1.env t x (by rw [look_cons, if_pos rfl])
            · refine hp1.env t y ?_
              rw [look_cons, if_neg e, ← hy]
              exact look_congr (comeSet t d' x h1 e).symm
      · have hall : ∀ j, j < i → l.getD j false = true := fun j hj => anc j (D.late i j (by omega) hi' hj)
        have him2 : i = m := by
          rcases Nat.lt_or_ge m i with h | h
          · have := hall m h; rw [hlate m (Nat.le_refl _)] at this; cases this
          · omega
        subst him2
        have hwl := fin l a w hall ⟨seq, hnd, hmem, hH⟩
        rw [List.drop_eq_getElem_cons hi'] at hwl
        unfold Go.wpOp
        simp only [hoa]
        unfold wpList at hwl
        have hfin : ∀ a w, wpList P ol.toArray Q (ol.drop (i + 1)) a w → Dn (l.setIfInBounds i true) ∧ ((∀ j, i ≤ j → (l.setIfInBounds i true).getD j false = false) ∧ St (l.setIfInBounds i true) a w ∨ ∃ k, i < k ∧ k ≤ ol.length ∧ (∀ j, (l.setIfInBounds i true).getD j false = true ↔ j < k) ∧ wpList P ol.toArray Q (ol.drop k) a w) := by
          intro a w h
          refine ⟨hdn', .inr ⟨i + 1, by omega, by omega, fun j => ?_, h⟩⟩
          rw [hset j]
          constructor
          · rintro (rfl | h2)
            · omega
            · by_cases hji : i ≤ j
              · rw [hlate j hji] at h2; cases h2
              · omega
          · intro h2
            by_cases hji : j = i
            · exact .inl hji
            · exact .inr (hall j (by omega))
        split
        · rename_i hw
          rw [if_pos hw] at hwl
          exact hwl.imp (Oper.wp_mono hfin) (fun x => x)
        · rename_i hw
          rw [if_neg hw] at hwl
          exact hfin _ _ hwl
    · have hk2 : i = k' := by
        have h1 : ¬ i < k' := fun h => by
          have := (hl i).2 h
          rw [hni'] at this; cases this
        rcases Nat.lt_or_ge k' i with h | h
        · have := (hl k').1 (anc k' (D.late i k' (by omega) hi' h))
          omega
        · omega
      subst hk2
      rw [List.drop_eq_getElem_cons hi'] at hwp
      unfold Go.wpOp
      simp only [hoa]
      unfold wpList at hwp
      have hfin : ∀ a w, wpList P ol.toArray Q (ol.drop (i + 1)) a w → Dn (l.setIfInBounds i true) ∧ ((∀ j, m ≤ j → (l.setIfInBounds i true).getD j false = false) ∧ St (l.setIfInBounds i true) a w ∨ ∃ k, m < k ∧ k ≤ ol.length ∧ (∀ j, (l.setIfInBounds i true).getD j false = true ↔ j < k) ∧ wpList P ol.toArray Q (ol.drop k) a w) := by
        intro a w h
        refine ⟨hdn', .inr ⟨i + 1, by omega, by omega, fun j => ?_, h⟩⟩
        rw [hset j, hl j]
        omega
      split
      · rename_i hw
        rw [if_pos hw] at hwp
        exact hwp.imp (Oper.wp_mono hfin) (fun x => x)
      · rename_i hw
        rw [if_neg hw] at hwp
        exact hfin _ _ hwp
  · rintro l a w ⟨hdn, hI⟩ hall
    rcases hI with ⟨hlate, hSt⟩ | ⟨k', hk, hkl, hl, hwp⟩
    · have hmm : m = ol.length := by
        rcases Nat.lt_or_ge m ol.length with h | h
        · have := hall m (by simpa using h)
          rw [hlate m (Nat.le_refl _)] at this; cases this
        · omega
      have := fin l a w (fun j hj => hall j (by simp; omega)) hSt
      rw [hmm, List.drop_length] at this
      exact this
    · have hkk : k' = ol.length := by
        rcases Nat.lt_or_ge k' ol.length with h | h
        · have := (hl k').1 (hall k' (by simpa using h))
          omega
        · omega
      rw [hkk, List.drop_length] at hwp
      exact hwp
  · unfold cntF
    refine Nat.le_trans (List.countP_le_length) (by simp)
  · have hrep : ∀ j, (Array.replicate ol.toArray.size false).getD j false = false := by
      intro j
      by_cases hj : j < ol.length <;> simp [Array.getD_eq_getD_getElem?, hj]
    refine ⟨fun i hi => ?_, .inl ⟨fun j _ => hrep j, [], List.nodup_nil, fun p => ⟨fun h => (by cases h), fun h => by rw [hrep p] at h; cases h.2⟩, ?_⟩⟩
    · rw [hrep i] at hi; cases hi
    · have : come out (Array.replicate ol.toArray.size false) env = env := by
        unfold come
        have : (List.range out.length).filter (fun i => (Array.replicate ol.toArray.size false).getD i false) = [] := by
          rw [List.filter_eq_nil_iff]
          intro i _
          rw [hrep i]
          simp
        rw [this]
        rfl
      have hfil : (M.filter fun p => !(Array.replicate ol.toArray.size false).getD p false) = M := List.filter_eq_self.2 (fun p _ => by rw [hrep p]; rfl)
      show Holds w0 N ([] ++ come out _ env) ([] ++ ((M.filter fun p => !(Array.replicate ol.toArray.size false).getD p false).flatMap X ++ hp)) _ _
      rw [this, hfil]
      exact ⟨hh.size, hh.defers, hh.env, hh.heap.drawn _⟩
theorem any_drawM {ι : Type} [Nonempty ι] {ol : List Oper} {out : Env} (m : Nat) (M : List Nat) (dm : Nat → Nat) (v : Nat → ι → Value) (it : Nat → ι → Item) (hok : okDrawE ol m N M = true) (hc : ChainM P w0 hp ol.toArray M N 0 (ol.take m) env out)
    (hM : ∀ p ∈ M, ∃ o, ol[p]? = some o ∧ o.dst = some (dm p) ∧ OpM P o ((out.take p).reverse ++ env) w0 hp (v p) (it p))
    (k : ∀ x : Nat → ι, WL P ol.toArray Q w0 N (ol.drop m) (M.map (fun p => (dm p, v p (x p))) ++ (out.reverse ++ env)) (M.map (fun p => it p (x p)) ++ hp)) : WA P ol Q w0 N env hp := by
  refine any_drawE m M (fun p => some (dm p)) v (fun _ => []) (fun p x => [it p x]) hok hc hM (by
    have : M.flatMap (fun _ => ([] : List Item)) = [] := List.flatMap_eq_nil_iff.2 (fun _ _ => rfl)
    rw [this]; rfl) (fun x => ?_)
  have h1 : M.filterMap (fun p => (some (dm p)).map fun d => (d, v p (x p))) = M.map (fun p => (dm p, v p (x p))) := by
    rw [← List.filterMap_eq_map]; rfl
  have h2 : M.flatMap (fun p => [it p (x p)]) = M.map (fun p => it p (x p)) := by
    clear hM hc hok k h1
    induction M with
    | nil => rfl
    | cons p M ih => rw [List.flatMap_cons, List.map_cons, ih]; rfl
  rw [h1, h2]
  exact k x
theorem any_draw1 {ι : Type} [Nonempty ι] {ol : List Oper} {out : Env} {o : Oper} (m p d : Nat) (v : ι → Value) (it : ι → Item) (hok : okDrawE ol m N [p] = true) (hc : ChainM P w0 hp ol.toArray [p] N 0 (ol.take m) env out)
    (ho : ol[p]? = some o) (hd : o.dst = some d) (hM : OpM P o ((out.take p).reverse ++ env) w0 hp v it)
    (k : ∀ x : ι, WL P ol.toArray Q w0 N (ol.drop m) ((d, v x) :: (out.reverse ++ env)) (it x :: hp)) :
    WA P ol Q w0 N env hp :=
  any_drawM m [p] (fun _ => d) (fun _ => v) (fun _ => it) hok hc (fun q hq => by obtain rfl := List.mem_singleton.1 hq; exact ⟨o, ho, hd, hM⟩) (fun X => k (X p))
def pickL (is : List Nat) (hp : List Item) : List Item := is.filterMap (fun i => hp[i]?)
theorem HeapOK.pick {w : World} (h : HeapOK w0 hp w) (is : List Nat) (hn : is.Nodup) (hl : is.all (fun i => decide (i < hp.length)) = true) : HeapOK w0 (pickL is hp) w := by
  refine h.at is hn ?_
  unfold pickL
  clear hn
  induction is with
  | nil => rfl
  | cons i is ih =>
    simp only [List.all_cons, Bool.and_eq_true, decide_eq_true_eq] at hl
    rw [List.map_cons, List.filterMap_cons, List.getElem?_eq_getElem hl.1, List.map_cons, ← ih hl.2]
end
end Go.Sx
end
section
namespace Go.Sx
open Go.RowKit
set_option linter.unusedVariables false
set_option linter.unusedSimpArgs false
def gset {ι : Type} (X : Nat → ι) (p : Nat) (x : ι) : Nat → ι := fun q => bif Nat.beq q p then x else X q
theorem gset_self {ι : Type} (X : Nat → ι) (p : Nat) (x : ι) : gset X p x p = x := by simp [gset]
theorem gset_other {ι : Type} (X : Nat → ι) (p : Nat) (x : ι) {q : Nat} (h : q ≠ p) : gset X p x q = X q := by
  unfold gset
  cases hb : Nat.beq q p with
  | false => rfl
  | true => exact absurd (Nat.eq_of_beq_eq_true hb) h
structure Sp (ι : Type) where
  d : Option Nat
  v : (Nat → ι) → Value
  U : List Nat
  R : List Nat
  D : List Nat
def tk {ι : Type} : List (Nat × ((Nat → ι) → List Item)) → Nat → (Nat → ι) → List Item
  | [], _, _ => []
  | (q, f) :: r, p, X => bif Nat.beq p q then f X else tk r p X
def tf {ι : Type} (TL : List (Nat × ((Nat → ι) → List Item))) (m : Nat) (hp : List Item) (X : Nat → ι) (p : Nat) : List Item := bif Nat.blt p m then tk TL p X else (hp[p - m]?).toList
def Sp.bind {ι : Type} (s : Sp ι) (X : Nat → ι) : Env := match s.d with | some d => [(d, s.v X)] | none => []
def LocG {ι : Type} (i : Nat) (D : List Nat) (v : (Nat → ι) → Value) (T : (Nat → ι) → List Item) : Prop := ∀ X X' : Nat → ι, X i = X' i → (∀ q ∈ D, X q = X' q) → v X = v X' ∧ T X = T X'
def SpE {ι : Type} (P : Program) (w0 : World) (hp : List Item) (m ny : Nat) (TL : List (Nat × ((Nat → ι) → List Item))) (i : Nat) (o : Oper) (E : (Nat → ι) → Env) (v : (Nat → ι) → Value) (U R : List Nat) : Prop :=
  ∀ X, OpE P o (E X) w0 (hp.drop ny) ((U ++ R).flatMap (tf TL m hp X)) (fun x => v (gset X i x)) (fun x => tk TL i (gset X i x) ++ R.flatMap (tf TL m hp X))
inductive ChainG {ι : Type} (P : Program) (w0 : World) (hp : List Item) (m ny : Nat) (ops : Array Oper) (TL : List (Nat × ((Nat → ι) → List Item))) : Nat → List Oper → ((Nat → ι) → Env) → List (Sp ι) → ((Nat → ι) → Env) → Prop
  | nil (i : Nat) (E : (Nat → ι) → Env) : ChainG P w0 hp m ny ops TL i [] E [] E
  | op {i : Nat} {o : Oper} {l : List Oper} {E Ef : (Nat → ι) → Env} {S : List (Sp ι)} {d : Nat} (v : (Nat → ι) → Value) (U R D : List Nat)
      (hq : SpE P w0 hp m ny TL i o E v U R) (hg : o.guard = none) (hd : o.dst = some d) (hl : LocG i D v (tk TL i))
      (k : ChainG P w0 hp m ny ops TL (i + 1) l (fun X => (d, v X) :: E X) S Ef) : ChainG P w0 hp m ny ops TL i (o :: l) E (⟨some d, v, U, R, D⟩ :: S) Ef
  | eff {i : Nat} {o : Oper} {l : List Oper} {E Ef : (Nat → ι) → Env} {S : List (Sp ι)} (v : (Nat → ι) → Value) (U R D : List Nat)
      (hq : SpE P w0 hp m ny TL i o E v U R) (hg : o.guard = none) (hd : o.dst = none) (hl : LocG i D v (tk TL i))
      (k : ChainG P w0 hp m ny ops TL (i + 1) l E S Ef) : ChainG P w0 hp m ny ops TL i (o :: l) E (⟨none, v, U, R, D⟩ :: S) Ef
  | want {i : Nat} {o : Oper} {l : List Oper} {E Ef : (Nat → ι) → Env} {S : List (Sp ι)} {d j tj : Nat} {b : Bool} (v : (Nat → ι) → Value) (U R D : List Nat)
      (hq : SpE P w0 hp m ny TL i o E v U R) (hg : o.guard = some (j, b)) (hj : (ops[j]?).bind (·.dst) = some tj) (hb : ∀ X, look tj (E X) = some (.bool b)) (hd : o.dst = some d) (hl : LocG i D v (tk TL i))
      (k : ChainG P w0 hp m ny ops TL (i + 1) l (fun X => (d, v X) :: E X) S Ef) : ChainG P w0 hp m ny ops TL i (o :: l) E (⟨some d, v, U, R, D⟩ :: S) Ef
  | skip {i : Nat} {o : Oper} {l : List Oper} {E Ef : (Nat → ι) → Env} {S : List (Sp ι)} {d j tj : Nat} {b : Bool} (hg : o.guard = some (j, !b)) (hj : (ops[j]?).bind (·.dst) = some tj) (hb : ∀ X, look tj (E X) = some (.bool b)) (hd : o.dst = some d) (ht : ∀ X, tk TL i X = [])
      (k : ChainG P w0 hp m ny ops TL (i + 1) l (fun X => (d, undef) :: E X) S Ef) : ChainG P w0 hp m ny ops TL i (o :: l) E (⟨some d, fun _ => undef, [], [], []⟩ :: S) Ef
  | skipU {i : Nat} {o : Oper} {l : List Oper} {E Ef : (Nat → ι) → Env} {S : List (Sp ι)} {d j tj : Nat} {b : Bool} (hg : o.guard = some (j, b)) (hj : (ops[j]?).bind (·.dst) = some tj) (hb : ∀ X, look tj (E X) = some undef) (hd : o.dst = some d) (ht : ∀ X, tk TL i X = [])
      (k : ChainG P w0 hp m ny ops TL (i + 1) l (fun X => (d, undef) :: E X) S Ef) : ChainG P w0 hp m ny ops TL i (o :: l) E (⟨some d, fun _ => undef, [], [], []⟩ :: S) Ef
def PartG {ι : Type} (P : Program) (w0 : World) (hp : List Item) (m ny : Nat) (ops : Array Oper) (TL : List (Nat × ((Nat → ι) → List Item))) (i : Nat) (o : Oper) (s : Sp ι) (E : (Nat → ι) → Env) : Prop :=
  (o.guard = none ∧ SpE P w0 hp m ny TL i o E s.v s.U s.R) ∨ (∃ j tj b, o.guard = some (j, b) ∧ (ops[j]?).bind (·.dst) = some tj ∧ (∀ X, look tj (E X) = some (.bool b)) ∧ SpE P w0 hp m ny TL i o E s.v s.U s.R) ∨
  (∃ j tj b x, o.guard = some (j, b) ∧ (ops[j]?).bind (·.dst) = some tj ∧ (x = .bool (!b) ∨ x = undef) ∧ (∀ X, look tj (E X) = some x) ∧ (∀ X, s.v X = undef) ∧ s.U = [] ∧ s.R = [] ∧ ∀ X, tk TL i X = [])
section
variable {P : Program} {ops : Array Oper} {Q : Exit → Act → World → Prop} {w0 : World} {N : Fr} {l : List Oper} {env : Env} {hp : List Item} {o : Oper} {m ny : Nat}
theorem OpQ.toE {ι : Type} {v : Value} {Z : List Item} (h : OpQ P o env w0 (Z ++ hp) v) [Nonempty ι] : OpE (ι := ι) P o env w0 hp Z (fun _ => v) (fun _ => Z) := by
  intro R a w he hh
  have := h a w he (hh.sub (List.Sublist.append_left (List.sublist_append_right _ _) Z))
  generalize (execOp a.eval o).run P w = r at this
  cases r with
  | halt x w' => exact this.elim
  | ok n w' =>
    cases n <;> try exact this.elim
    · obtain ⟨rfl, hb⟩ := this
      exact ⟨Classical.choice ‹_›, rfl, hh.below hb⟩
    · exact Calls.mono this (fun e w'' ⟨h1, h2⟩ => ⟨Classical.choice ‹_›, h1, hh.below h2⟩)
theorem OpE.gmap {ι κ : Type} {X : List Item} {v : κ → Value} {X' : κ → List Item} (h : OpE P o env w0 hp X v X') (f : ι → κ) (g : κ → ι) (hfg : ∀ k, f (g k) = k) : OpE P o env w0 hp X (fun x => v (f x)) (fun x => X' (f x)) := by
  intro R a w he hh
  have := h R a w he hh
  generalize (execOp a.eval o).run P w = r at this
  cases r with
  | halt x w' => exact this.elim
  | ok n w' =>
    cases n <;> try exact this.elim
    · obtain ⟨x, h1, h2⟩ := this
      exact ⟨g x, by simp only [hfg]; exact h1, by simp only [hfg]; exact h2⟩
    · obtain ⟨x, h1, h2⟩ := this
      exact ⟨g x, by simp only [hfg]; exact h1, by simp only [hfg]; exact h2⟩
    · exact Calls.mono this (fun e w'' ⟨x, h1, h2⟩ => ⟨g x, by simp only [hfg]; exact h1, by simp only [hfg]; exact h2⟩)
variable {ι : Type} {TL : List (Nat × ((Nat → ι) → List Item))} {i : Nat} {E Ef : (Nat → ι) → Env} {S : List (Sp ι)}
theorem ChainG.yield [Nonempty ι] {d : Nat} {v : (Nat → ι) → Value} (R D : List Nat) (hq : ∀ X, OpQ P o (E X) w0 (R.flatMap (tf TL m hp X) ++ hp.drop ny) (v X)) (hg : o.guard = none) (hd : o.dst = some d) (ht : ∀ X, tk TL i X = []) (hv : ∀ X x, v (gset X i x) = v X) (hl : LocG i D v (fun _ => []))
    (k : ChainG P w0 hp m ny ops TL (i + 1) l (fun X => (d, v X) :: E X) S Ef) : ChainG P w0 hp m ny ops TL i (o :: l) E (⟨some d, v, [], R, D⟩ :: S) Ef :=
  .op v [] R D (fun X => by
    have h := (hq X).toE (ι := ι)
    simp only [hv, ht]
    exact h) hg hd (fun X X' h1 h2 => ⟨(hl X X' h1 h2).1, by rw [ht, ht]⟩) k
theorem ChainG.wantq [Nonempty ι] {d j tj : Nat} {b : Bool} {v : (Nat → ι) → Value} (R D : List Nat) (hq : ∀ X, OpQ P o (E X) w0 (R.flatMap (tf TL m hp X) ++ hp.drop ny) (v X)) (hg : o.guard = some (j, b)) (hj : (ops[j]?).bind (·.dst) = some tj) (hb : ∀ X, look tj (E X) = some (.bool b)) (hd : o.dst = some d) (ht : ∀ X, tk TL i X = []) (hv : ∀ X x, v (gset X i x) = v X) (hl : LocG i D v (fun _ => []))
    (k : ChainG P w0 hp m ny ops TL (i + 1) l (fun X => (d, v X) :: E X) S Ef) : ChainG P w0 hp m ny ops TL i (o :: l) E (⟨some d, v, [], R, D⟩ :: S) Ef :=
  .want v [] R D (fun X => by
    have h := (hq X).toE (ι := ι)
    simp only [hv, ht]
    exact h) hg hj hb hd (fun X X' h1 h2 => ⟨(hl X X' h1 h2).1, by rw [ht, ht]⟩) k
theorem ChainG.store [Nonempty ι] {T : (Nat → ι) → List Item} (U D : List Nat) (hq : ∀ X, OpE (ι := Unit) P o (E X) w0 (hp.drop ny) (U.flatMap (tf TL m hp X)) (fun _ => undef) (fun _ => T X)) (hg : o.guard = none) (hd : o.dst = none) (ht : ∀ X, tk TL i X = T X) (hT : ∀ X x, T (gset X i x) = T X) (hl : LocG i D (fun _ => undef) (tk TL i))
    (k : ChainG P w0 hp m ny ops TL (i + 1) l E S Ef) : ChainG P w0 hp m ny ops TL i (o :: l) E (⟨none, fun _ => undef, U, [], D⟩ :: S) Ef :=
  .eff (fun _ => undef) U [] D (fun X => by
    have h := (hq X).gmap (ι := ι) (fun _ => ()) (fun _ => Classical.choice ‹_›) (fun _ => rfl)
    simp only [ht, hT, List.append_nil, List.flatMap_nil]
    exact h) hg hd (fun X X' h1 h2 => ⟨rfl, (hl X X' h1 h2).2⟩) k
theorem ChainG.ope {d : Nat} (v : (Nat → ι) → Value) (U D : List Nat) (hq : ∀ X, OpE P o (E X) w0 (hp.drop ny) (U.flatMap (tf TL m hp X)) (fun x => v (gset X i x)) (fun x => tk TL i (gset X i x))) (hg : o.guard = none) (hd : o.dst = some d) (hl : LocG i D v (tk TL i))
    (k : ChainG P w0 hp m ny ops TL (i + 1) l (fun X => (d, v X) :: E X) S Ef) : ChainG P w0 hp m ny ops TL i (o :: l) E (⟨some d, v, U, [], D⟩ :: S) Ef :=
  .op v U [] D (fun X => by
    simp only [List.append_nil, List.flatMap_nil]
    exact hq X) hg hd hl k
theorem oe_storeAt {T T' : TypeId} {x y : Operand} {b off n i : Nat} {cs vs cs' : List Value} {v : Value} {X X' : List Item} (ho : o.op = .store T x y) (hx : evE x env = some (.pointer (some ⟨b, off, none⟩))) (hy : evE y env = some v) (hi : X[i]? = some (.blk b cs T'))
    (hs : P.sizeIs T = some n) (hv : v.cells = vs.toArray) (hn : vs.length = n) (hfit : off + n ≤ cs.length) (h1 : ∀ u ∈ vs, u.oneCell' = true) (hc : cs.take off ++ vs ++ cs.drop (off + vs.length) = cs') (hX : X.set i (.blk b cs' T') = X') : OpE P o env w0 hp X (fun _ : Unit => undef) (fun _ => X') := by
  subst hc hX
  intro R a w he hh
  have hil := (List.getElem?_eq_some_iff.1 hi).1
  have hi2 : (X ++ (R ++ hp))[i]? = some (.blk b cs T') := by rw [List.getElem?_append_left hil]; exact hi
  have hb := hh.get hi2
  have hr := run_storeCells_at P b off T' vs 0 cs.toArray w hb (by simp; omega) h1
  unfold execOp
  simp only [ho, ev_of he hx, ev_of he hy, Instr.storeAt, Instr.sureAddr, storeVar, Sem.run_bind, Sem.run_pure, Result.andThen_ok, hv, List.size_toArray, run_sizeOf hs, hn, ne_eq, not_true, if_false, hr]
  refine ⟨(), rfl, ?_⟩
  have := hh.setRow hi2 (cs' := cs.take off ++ vs ++ cs.drop (off + vs.length))
  rw [List.set_append_left _ _ hil] at this
  simpa [hn] using this
theorem ChainG.spec {n : Nat} (h : ChainG P w0 hp m ny ops TL n l E S Ef) :
    S.length = l.length ∧ (∀ X, Ef X = S.reverse.flatMap (·.bind X) ++ E X) ∧ ∀ i o, l[i]? = some o → ∃ s, S[i]? = some s ∧ o.dst = s.d ∧ LocG (n + i) s.D s.v (tk TL (n + i)) ∧ PartG P w0 hp m ny ops TL (n + i) o s (fun X => (S.take i).reverse.flatMap (·.bind X) ++ E X) := by
  have key : ∀ {n : Nat} {o : Oper} {l : List Oper} {E E' Ef : (Nat → ι) → Env} {S : List (Sp ι)} {s : Sp ι}, (∀ X, E' X = s.bind X ++ E X) → o.dst = s.d → LocG n s.D s.v (tk TL n) → PartG P w0 hp m ny ops TL n o s E →
      (S.length = l.length ∧ (∀ X, Ef X = S.reverse.flatMap (·.bind X) ++ E' X) ∧ ∀ i o, l[i]? = some o → ∃ s, S[i]? = some s ∧ o.dst = s.d ∧ LocG (n + 1 + i) s.D s.v (tk TL (n + 1 + i)) ∧ PartG P w0 hp m ny ops TL (n + 1 + i) o s (fun X => (S.take i).reverse.flatMap (·.bind X) ++ E' X)) →
      (s :: S).length = (o :: l).length ∧ (∀ X, Ef X = (s :: S).reverse.flatMap (·.bind X) ++ E X) ∧ ∀ i o', (o :: l)[i]? = some o' → ∃ s', (s :: S)[i]? = some s' ∧ o'.dst = s'.d ∧ LocG (n + i) s'.D s'.v (tk TL (n + i)) ∧ PartG P w0 hp m ny ops TL (n + i) o' s' (fun X => ((s :: S).take i).reverse.flatMap (·.bind X) ++ E X) := by
    intro n o l E E' Ef S s hE hd hl hp_ ⟨h1, h2, h3⟩
    refine ⟨by simp [h1], fun X => by rw [h2, hE]; simp, fun i o' hi => ?_⟩
    cases i with
    | zero =>
      cases hi
      refine ⟨s, rfl, hd, hl, ?_⟩
      simpa using hp_
    | succ i =>
      obtain ⟨s', a1, a2, a3, a4⟩ := h3 i o' (by simpa using hi)
      rw [Nat.add_assoc, Nat.add_comm 1 i] at a3 a4
      refine ⟨s', by simpa using a1, a2, a3, ?_⟩
      have : (fun X => ((s :: S).take (i + 1)).reverse.flatMap (·.bind X) ++ E X) = fun X => (S.take i).reverse.flatMap (·.bind X) ++ E' X := by
        funext X; rw [hE]; simp
      rw [this]
      exact a4
  induction h with
  | nil i E => exact ⟨rfl, fun X => rfl, fun i o h => by simp at h⟩
  | op v U R D hq hg hd hl k ih => exact key (fun X => rfl) hd hl (.inl ⟨hg, hq⟩) ih
  | eff v U R D hq hg hd hl k ih => exact key (fun X => rfl) hd hl (.inl ⟨hg, hq⟩) ih
  | want v U R D hq hg hj hb hd hl k ih => exact key (fun X => rfl) hd hl (.inr (.inl ⟨_, _, _, hg, hj, hb, hq⟩)) ih
  | skip hg hj hb hd ht k ih => exact key (fun X => rfl) hd (fun X X' _ _ => ⟨rfl, by rw [ht, ht]⟩) (.inr (.inr ⟨_, _, _, _, hg, hj, .inl (by rw [Bool.not_not]), hb, fun _ => rfl, rfl, rfl, ht⟩)) ih
  | skipU hg hj hb hd ht k ih => exact key (fun X => rfl) hd (fun X X' _ _ => ⟨rfl, by rw [ht, ht]⟩) (.inr (.inr ⟨_, _, _, _, hg, hj, .inr rfl, hb, fun _ => rfl, rfl, rfl, ht⟩)) ih
end
section
variable {P : Program} {ops : Array Oper} {Q : Exit → Act → World → Prop} {w0 : World} {N : Fr} {l : List Oper} {env : Env} {hp : List Item} {o : Oper}
structure UR where
  U : List Nat
  R : List Nat
  D : List Nat
def okG (ol : List Oper) (m ny N : Nat) (UD : List UR) : Bool :=
  let ms := masksOf ol []
  ((List.range ol.length).all fun i => ((ol[i]?).map fun o => o.after.all fun e => !Region.binds .any e || decide (e.on < i)).getD true) &&
  (((List.range m).all fun i => match ol[i]? with
    | some o => selB o && ((match o.dst with | some d => decide (d < N) | none => true) &&
      (((UD.getD i ⟨[], [], []⟩).D.all (fun q => decide (q < i) && (ms.getD i 0).testBit q)) &&
      ((((UD.getD i ⟨[], [], []⟩).U ++ (UD.getD i ⟨[], [], []⟩).R).all (fun q => (decide (q < i) && (ms.getD i 0).testBit q) || (decide (m ≤ q) && decide (q < m + ny)))) &&
      (decide ((UD.getD i ⟨[], [], []⟩).U ++ (UD.getD i ⟨[], [], []⟩).R).Nodup &&
      (List.range m).all fun j => match ol[j]? with
        | some o' => (match o'.dst with
          | some t => (decide (i = j) || o.dst != some t) && (!(o.looksAt ol.toArray).contains t || ((decide (j < i) && (ms.getD i 0).testBit j) || (decide (i < j) && (ms.getD j 0).testBit i)))
          | none => true) && ((UD.getD i ⟨[], [], []⟩).R.all fun q => !((UD.getD j ⟨[], [], []⟩).U.contains q) || (ms.getD j 0).testBit i)
        | none => false))))
    | none => false) &&
  (((List.range (ol.length - m)).all fun k => (List.range (m + k)).all fun j => (ms.getD (m + k) 0).testBit j) && decide ((UD.flatMap (·.U)).Nodup)))
structure OkG (ol : List Oper) (m ny N : Nat) (UD : List UR) : Prop where
  on : (List.range ol.toArray.size).all (fun i => ((ol.toArray[i]?).map fun o => o.after.all fun e => !Region.binds .any e || decide (e.on < i)).getD true) = true
  sel : ∀ i o, i < m → ol[i]? = some o → ∀ cs b, o.op ≠ .select cs b
  lt : ∀ i o d, i < m → ol[i]? = some o → o.dst = some d → d < N
  dep : ∀ i q, i < m → q ∈ (UD.getD i ⟨[], [], []⟩).D → q < i ∧ ((masksOf ol []).getD i 0).testBit q = true
  use : ∀ i q, i < m → q ∈ (UD.getD i ⟨[], [], []⟩).U ++ (UD.getD i ⟨[], [], []⟩).R → (q < i ∧ ((masksOf ol []).getD i 0).testBit q = true) ∨ (m ≤ q ∧ q < m + ny)
  und : ∀ i, i < m → ((UD.getD i ⟨[], [], []⟩).U ++ (UD.getD i ⟨[], [], []⟩).R).Nodup
  read : ∀ i j q, i < m → j < m → q ∈ (UD.getD i ⟨[], [], []⟩).R → q ∈ (UD.getD j ⟨[], [], []⟩).U → ((masksOf ol []).getD j 0).testBit i = true
  uniq : ∀ i j o o' d, i < m → j < m → ol[i]? = some o → ol[j]? = some o' → o.dst = some d → o'.dst = some d → i = j
  reads : ∀ i j o o' t, i < m → j < m → ol[i]? = some o → ol[j]? = some o' → o'.dst = some t → t ∈ o.looksAt ol.toArray → (j < i ∧ ((masksOf ol []).getD i 0).testBit j = true) ∨ (i < j ∧ ((masksOf ol []).getD j 0).testBit i = true)
  late : ∀ i j, m ≤ i → i < ol.length → j < i → ((masksOf ol []).getD i 0).testBit j = true
  m_le : ∀ i, i < m → ∃ o, ol[i]? = some o
  nodup : (UD.flatMap (·.U)).Nodup
theorem okG_spec {ol : List Oper} {m ny N : Nat} {UD : List UR} (h : okG ol m ny N UD = true) : OkG ol m ny N UD := by
  simp only [okG, Bool.and_eq_true, decide_eq_true_eq] at h
  obtain ⟨h1, h2, h3, h4⟩ := h
  have key : ∀ i o, i < m → ol[i]? = some o → selB o = true ∧ (∀ d, o.dst = some d → d < N) ∧ (∀ q, q ∈ (UD.getD i ⟨[], [], []⟩).D → q < i ∧ ((masksOf ol []).getD i 0).testBit q = true) ∧
      (∀ q, q ∈ (UD.getD i ⟨[], [], []⟩).U ++ (UD.getD i ⟨[], [], []⟩).R → (q < i ∧ ((masksOf ol []).getD i 0).testBit q = true) ∨ (m ≤ q ∧ q < m + ny)) ∧ ((UD.getD i ⟨[], [], []⟩).U ++ (UD.getD i ⟨[], [], []⟩).R).Nodup ∧
      ∀ j o', j < m → ol[j]? = some o' → (∀ q, q ∈ (UD.getD i ⟨[], [], []⟩).R → q ∈ (UD.getD j ⟨[], [], []⟩).U → ((masksOf ol []).getD j 0).testBit i = true) ∧
        ∀ t, o'.dst = some t → (i = j ∨ o.dst ≠ some t) ∧ (t ∈ o.looksAt ol.toArray → (j < i ∧ ((masksOf ol []).getD i 0).testBit j = true) ∨ (i < j ∧ ((masksOf ol []).getD j 0).testBit i = true)) := by
    intro i o hi ho
    have := List.all_eq_true.1 h2 i (List.mem_range.2 hi)
    rw [ho] at this
    simp only [Bool.and_eq_true, decide_eq_true_eq] at this
    obtain ⟨hs, hd, hdep, huse, hund, hj⟩ := this
    refine ⟨hs, fun d e => by rw [e] at hd; simpa using hd, fun q hq => ?_, fun q hq => ?_, hund, fun j o' hjm ho' => ?_⟩
    · have := List.all_eq_true.1 hdep q hq
      simpa [Bool.and_eq_true, decide_eq_true_eq] using this
    · have := List.all_eq_true.1 huse q hq
      simpa only [Bool.or_eq_true, Bool.and_eq_true, decide_eq_true_eq] using this
    · have := List.all_eq_true.1 hj j (List.mem_range.2 hjm)
      rw [ho'] at this
      simp only [Bool.and_eq_true] at this
      obtain ⟨ha, hb⟩ := this
      refine ⟨fun q hq hqU => ?_, fun t hd' => ?_⟩
      · have := List.all_eq_true.1 hb q hq
        rw [List.contains_iff_mem.2 hqU] at this
        simpa using this
      · simp only [hd', Bool.and_eq_true, Bool.or_eq_true, decide_eq_true_eq, bne_iff_ne, Bool.not_eq_true'] at ha
        refine ⟨ha.1, fun hl => ?_⟩
        rcases ha.2 with h6 | h6
        · rw [List.contains_iff_mem.2 hl] at h6; cases h6
        · exact h6
  have ex : ∀ i, i < m → ∃ o, ol[i]? = some o := by
    intro i hi
    have := List.all_eq_true.1 h2 i (List.mem_range.2 hi)
    cases ho : ol[i]? with
    | none => rw [ho] at this; cases this
    | some o => exact ⟨o, rfl⟩
  refine ⟨by simpa using h1, ?_, ?_, ?_, ?_, ?_, ?_, ?_, ?_, ?_, ex, h4⟩
  · intro i o hi ho cs b e
    have := (key i o hi ho).1
    simp [selB, e] at this
  · exact fun i o d hi ho hd => (key i o hi ho).2.1 d hd
  · intro i q hi hq
    obtain ⟨o, ho⟩ := ex i hi
    exact (key i o hi ho).2.2.1 q hq
  · intro i q hi hq
    obtain ⟨o, ho⟩ := ex i hi
    exact (key i o hi ho).2.2.2.1 q hq
  · intro i hi
    obtain ⟨o, ho⟩ := ex i hi
    exact (key i o hi ho).2.2.2.2.1
  · intro i j q hi hj hq hq'
    obtain ⟨o, ho⟩ := ex i hi
    obtain ⟨o', ho'⟩ := ex j hj
    exact ((key i o hi ho).2.2.2.2.2 j o' hj ho').1 q hq hq'
  · intro i j o o' d hi hj ho ho' hd hd'
    rcases (((key i o hi ho).2.2.2.2.2 j o' hj ho').2 d hd').1 with h | h
    · exact h
    · exact absurd hd h
  · exact fun i j o o' t hi hj ho ho' hd hl => (((key i o hi ho).2.2.2.2.2 j o' hj ho').2 t hd).2 hl
  · intro i j hi hl hj
    have := List.all_eq_true.1 h3 (i - m) (List.mem_range.2 (by omega))
    have := List.all_eq_true.1 this j (List.mem_range.2 (by omega))
    rwa [show m + (i - m) = i by omega] at this
theorem nodup_flat {α β : Type} {f : α → List β} : ∀ {l : List α}, (l.flatMap f).Nodup → (∀ (i : Nat) (x : α), l[i]? = some x → (f x).Nodup) ∧ ∀ (i j : Nat) (x y : α) (b : β), l[i]? = some x → l[j]? = some y → b ∈ f x → b ∈ f y → i = j
  | [], _ => ⟨fun i x h => by simp at h, fun i j x y b h => by simp at h⟩
  | x :: l, h => by
    rw [List.flatMap_cons, List.nodup_append] at h
    obtain ⟨h1, h2, h3⟩ := h
    obtain ⟨i1, i2⟩ := nodup_flat h2
    refine ⟨fun i y hy => ?_, fun i j y z b hy hz hb hb' => ?_⟩
    · cases i with
      | zero => cases hy; exact h1
      | succ i => exact i1 i y (by simpa using hy)
    · cases i with
      | zero =>
        cases hy
        cases j with
        | zero => rfl
        | succ j => exact absurd rfl (h3 b hb b (List.mem_flatMap.2 ⟨z, List.mem_of_getElem? (by simpa using hz), hb'⟩))
      | succ i =>
        cases j with
        | zero => cases hz; exact absurd rfl (h3 b hb' b (List.mem_flatMap.2 ⟨y, List.mem_of_getElem? (by simpa using hy), hb⟩))
        | succ j => rw [i2 i j y z b (by simpa using hy) (by simpa using hz) hb hb']
theorem take_pick {hp : List Item} {m : Nat} : ∀ (n : Nat), n ≤ hp.length → ((List.range n).map (m + ·)).flatMap (fun p => (hp[p - m]?).toList) = hp.take n
  | 0, _ => rfl
  | n + 1, h => by
    rw [List.range_succ, List.map_append, List.flatMap_append, take_pick n (by omega), List.take_add_one]
    simp
theorem any_drawG {ι : Type} [Nonempty ι] {ol : List Oper} {S : List (Sp ι)} {Ef : (Nat → ι) → Env} {hp0 : List Item} (m ny : Nat) (TL : List (Nat × ((Nat → ι) → List Item))) (UD : List UR) (hok : okG ol m ny N UD = true)
    (hc : ChainG P w0 hp0 m ny ol.toArray TL 0 (ol.take m) (fun _ => env) S Ef) (hUD : S.map (fun s => (⟨s.U, s.R, s.D⟩ : UR)) = UD) (hny : decide (ny ≤ hp0.length) = true)
    (L : (Nat → ι) → List Item) (hL : ∀ X, ((List.range (m + ny)).filter (fun q => !(UD.any (fun u => u.U.contains q)))).flatMap (tf TL m hp0 X) ++ hp0.drop ny = L X)
    (k : ∀ X : Nat → ι, WL P ol.toArray Q w0 N (ol.drop m) (Ef X) (L X)) : WA P ol Q w0 N env hp0 := by
  intro a w hh
  obtain ⟨hp, hhp⟩ : ∃ hp, hp = hp0.drop ny := ⟨_, rfl⟩
  have hny : ny ≤ hp0.length := by simpa using hny
  subst hUD
  have D := okG_spec hok
  obtain ⟨hlen, hEf, hspec⟩ := hc.spec
  have hml : m ≤ ol.length := by
    rcases Nat.eq_zero_or_pos m with h | h
    · omega
    · obtain ⟨o, ho⟩ := D.m_le (m - 1) (by omega)
      have := (List.getElem?_eq_some_iff.1 ho).1
      omega
  have hlen' : S.length = m := by rw [hlen, List.length_take]; omega
  have hget : ∀ i o, i < m → ol[i]? = some o → ∃ s, S[i]? = some s ∧ o.dst = s.d ∧ LocG i s.D s.v (tk TL i) ∧ PartG P w0 hp0 m ny ol.toArray TL i o s (fun X => (S.take i).reverse.flatMap (·.bind X) ++ env) := fun i o hi ho => by
    have := hspec i o (by rw [List.getElem?_take, if_pos hi]; exact ho)
    simpa only [Nat.zero_add] using this
  have hUDg : ∀ (i : Nat) (s : Sp ι), S[i]? = some s → (S.map (fun s => (⟨s.U, s.R, s.D⟩ : UR))).getD i ⟨[], [], []⟩ = ⟨s.U, s.R, s.D⟩ := fun i s hs => by
    rw [List.getD_eq_getElem?_getD, List.getElem?_map, hs]; rfl
  have hlt : ∀ (i : Nat) (s : Sp ι), S[i]? = some s → i < m := fun i s h => by have := (List.getElem?_eq_some_iff.1 h).1; omega
  have hdep : ∀ (i : Nat) (s : Sp ι) (q : Nat), S[i]? = some s → q ∈ s.D → q < i ∧ ((masksOf ol []).getD i 0).testBit q = true := fun i s q hs hq => D.dep i q (hlt i s hs) (by rw [hUDg i s hs]; exact hq)
  have huse : ∀ (i : Nat) (s : Sp ι) (q : Nat), S[i]? = some s → q ∈ s.U ++ s.R → (q < i ∧ ((masksOf ol []).getD i 0).testBit q = true) ∨ (m ≤ q ∧ q < m + ny) := fun i s q hs hq => D.use i q (hlt i s hs) (by rw [hUDg i s hs]; exact hq)
  have hURnd : ∀ (i : Nat) (s : Sp ι), S[i]? = some s → (s.U ++ s.R).Nodup := fun i s hs => by
    have := D.und i (hlt i s hs)
    rwa [hUDg i s hs] at this
  have hreadb : ∀ (i j : Nat) (s s' : Sp ι) (q : Nat), S[i]? = some s → S[j]? = some s' → q ∈ s.R → q ∈ s'.U → ((masksOf ol []).getD j 0).testBit i = true := fun i j s s' q hs hs' hq hq' => D.read i j q (hlt i s hs) (hlt j s' hs') (by rw [hUDg i s hs]; exact hq) (by rw [hUDg j s' hs']; exact hq')
  have hnd : (S.flatMap (·.U)).Nodup := by
    have := D.nodup
    rwa [List.flatMap_map] at this
  obtain ⟨hUnd, hUone⟩ := nodup_flat hnd
  have huniq : ∀ (i j : Nat) (s s' : Sp ι) (t : Nat), S[i]? = some s → S[j]? = some s' → s.d = some t → s'.d = some t → i = j := by
    intro i j s s' t hs hs' hd hd'
    have hi := hlt i s hs
    have hj := hlt j s' hs'
    obtain ⟨o, ho⟩ := D.m_le i hi
    obtain ⟨o', ho'⟩ := D.m_le j hj
    obtain ⟨s1, e1, e2, _⟩ := hget i o hi ho
    obtain ⟨s2, e3, e4, _⟩ := hget j o' hj ho'
    rw [hs] at e1; cases e1
    rw [hs'] at e3; cases e3
    exact D.uniq i j o o' t hi hj ho ho' (e2.trans hd) (e4.trans hd')
  have hloc : ∀ (i : Nat) (s : Sp ι), S[i]? = some s → LocG i s.D s.v (tk TL i) := by
    intro i s hs
    obtain ⟨o, ho⟩ := D.m_le i (hlt i s hs)
    obtain ⟨s1, e1, _, e2, _⟩ := hget i o (hlt i s hs) ho
    rw [hs] at e1; cases e1
    exact e2
  have hgood := masks_good ol ol [] rfl (fun i j h => by simp at h)
  let Dn (l : Array Bool) : Prop := ∀ i, (l.getD i false = true) → Afters ol (fun i => l.getD i false = true) i
  let dn (l : Array Bool) : List Nat := (List.range m).filter (fun q => l.getD q false)
  let bd (q : Nat) (X : Nat → ι) : Env := match S[q]? with | some s => s.bind X | none => []
  let Uq (p : Nat) : List Nat := match S[p]? with | some s => s.U | none => []
  let cm (l : Array Bool) (X : Nat → ι) : Env := (dn l).flatMap (fun q => bd q X)
  let us (l : Array Bool) (q : Nat) : Bool := (dn l).any (fun p => (Uq p).contains q)
  let av (l : Array Bool) : List Nat := (List.range (m + ny)).filter (fun q => decide (m ≤ q) || l.getD q false)
  let al (l : Array Bool) : List Nat := (av l).filter (fun q => !us l q)
  have memav : ∀ l q, q ∈ av l ↔ q < m + ny ∧ (m ≤ q ∨ l.getD q false = true) := fun l q => by
    show q ∈ List.filter _ _ ↔ _
    rw [List.mem_filter, List.mem_range, Bool.or_eq_true, decide_eq_true_eq]
  have memdn : ∀ l q, q ∈ dn l ↔ q < m ∧ l.getD q false = true := fun l q => by
    show q ∈ List.filter _ _ ↔ _
    rw [List.mem_filter, List.mem_range]
  have memcm : ∀ (l : Array Bool) (X : Nat → ι) (t : Nat) (y : Value), (t, y) ∈ cm l X ↔ ∃ (q : Nat) (s : Sp ι), l.getD q false = true ∧ S[q]? = some s ∧ s.d = some t ∧ y = s.v X := by
    intro l X t y
    show (t, y) ∈ List.flatMap _ _ ↔ _
    rw [List.mem_flatMap]
    constructor
    · rintro ⟨q, hq, hm⟩
      have hq := (memdn l q).1 hq
      cases hs : S[q]? with
      | none => simp only [bd, hs] at hm; cases hm
      | some s =>
        simp only [bd, hs, Sp.bind] at hm
        cases hd : s.d with
        | none => rw [hd] at hm; cases hm
        | some d =>
          rw [hd] at hm
          obtain ⟨rfl, rfl⟩ := Prod.mk.inj (List.mem_singleton.1 hm)
          exact ⟨q, s, hq.2, hs, hd, rfl⟩
    · rintro ⟨q, s, hl, hs, hd, rfl⟩
      refine ⟨q, (memdn l q).2 ⟨hlt q s hs, hl⟩, ?_⟩
      simp only [bd, hs, Sp.bind, hd]
      exact List.mem_singleton.2 rfl
  have memE : ∀ (i : Nat) (X : Nat → ι) (t : Nat) (y : Value), (t, y) ∈ (S.take i).reverse.flatMap (·.bind X) ↔ ∃ (q : Nat) (s : Sp ι), q < i ∧ S[q]? = some s ∧ s.d = some t ∧ y = s.v X := by
    intro i X t y
    rw [List.mem_flatMap]
    constructor
    · rintro ⟨s, hs, hm⟩
      rw [List.mem_reverse] at hs
      obtain ⟨q, hq1, hq2⟩ := List.mem_iff_getElem.1 hs
      have hqi : q < i := by simp at hq1; omega
      have hq : S[q]? = some s := by
        have : (S.take i)[q]? = some s := by rw [List.getElem?_eq_getElem hq1, hq2]
        rwa [List.getElem?_take, if_pos hqi] at this
      simp only [Sp.bind] at hm
      cases hd : s.d with
      | none => rw [hd] at hm; cases hm
      | some d =>
        rw [hd] at hm
        obtain ⟨rfl, rfl⟩ := Prod.mk.inj (List.mem_singleton.1 hm)
        exact ⟨q, s, hqi, hq, hd, rfl⟩
    · rintro ⟨q, s, hq, hs, hd, rfl⟩
      refine ⟨s, List.mem_reverse.2 (List.mem_of_getElem? (i := q) (by rw [List.getElem?_take, if_pos hq]; exact hs)), ?_⟩
      simp only [Sp.bind, hd]
      exact List.mem_singleton.2 rfl
  have inCm : ∀ (l : Array Bool) (X : Nat → ι) (B : Env) (q : Nat) (s : Sp ι) (t : Nat), l.getD q false = true → S[q]? = some s → s.d = some t → look t (cm l X ++ B) = some (s.v X) := fun l X B q s t hl hs hd => look_in ((memcm l X t _).2 ⟨q, s, hl, hs, hd, rfl⟩) (fun x hx => by
    obtain ⟨q', s', _, hs', hd', rfl⟩ := (memcm l X t x).1 hx
    have := huniq q q' s s' t hs hs' hd hd'
    subst this
    rw [hs] at hs'; cases hs'; rfl)
  have offCm : ∀ (l : Array Bool) (X : Nat → ι) (B : Env) (t : Nat), (∀ (q : Nat) (s : Sp ι), l.getD q false = true → S[q]? = some s → s.d ≠ some t) → look t (cm l X ++ B) = look t B := fun l X B t h => look_app (fun p hp e => by
    obtain ⟨pt, pv⟩ := p
    simp only at e
    subst e
    obtain ⟨q, s, hl, hs, hd, _⟩ := (memcm l X pt pv).1 hp
    exact h q s hl hs hd)
  have inE : ∀ (i : Nat) (X : Nat → ι) (B : Env) (q : Nat) (s : Sp ι) (t : Nat), q < i → S[q]? = some s → s.d = some t → look t ((S.take i).reverse.flatMap (·.bind X) ++ B) = some (s.v X) := fun i X B q s t hl hs hd => look_in ((memE i X t _).2 ⟨q, s, hl, hs, hd, rfl⟩) (fun x hx => by
    obtain ⟨q', s', _, hs', hd', rfl⟩ := (memE i X t x).1 hx
    have := huniq q q' s s' t hs hs' hd hd'
    subst this
    rw [hs] at hs'; cases hs'; rfl)
  have offE : ∀ (i : Nat) (X : Nat → ι) (B : Env) (t : Nat), (∀ (q : Nat) (s : Sp ι), q < i → S[q]? = some s → s.d ≠ some t) → look t ((S.take i).reverse.flatMap (·.bind X) ++ B) = look t B := fun i X B t h => look_app (fun p hp e => by
    obtain ⟨pt, pv⟩ := p
    simp only at e
    subst e
    obtain ⟨q, s, hl, hs, hd, _⟩ := (memE i X pt pv).1 hp
    exact h q s hl hs hd)
  have agree : ∀ (l : Array Bool) (X : Nat → ι) (i : Nat) (o : Oper) (t : Nat), Dn l → i < m → ol[i]? = some o → l.getD i false = false → Afters ol (fun i => l.getD i false = true) i → t ∈ o.looksAt ol.toArray → look t (cm l X ++ env) = look t ((S.take i).reverse.flatMap (·.bind X) ++ env) := by
    intro l X i o t hdn hi ho hni hai ht
    have anc : ∀ j, ((masksOf ol []).getD i 0).testBit j = true → l.getD j false = true := fun j hj => hgood i j hj _ (fun q hq => hdn q hq) hai
    by_cases hex : ∃ (j : Nat) (s : Sp ι), S[j]? = some s ∧ s.d = some t
    · obtain ⟨j, s, hs, hd⟩ := hex
      have hjm := hlt j s hs
      obtain ⟨oj, hoj⟩ := D.m_le j hjm
      obtain ⟨s1, e1, e2, _⟩ := hget j oj hjm hoj
      rw [hs] at e1; cases e1
      rcases D.reads i j o oj t hi hjm ho hoj (e2.trans hd) ht with ⟨h3, h4⟩ | ⟨h3, h4⟩
      · rw [inCm l X env j s t (anc j h4) hs hd, inE i X env j s t h3 hs hd]
      · have hnl : ¬ l.getD j false = true := by
          intro hlj
          have := hgood j i h4 _ (fun q hq => hdn q hq) (hdn j hlj)
          rw [hni] at this
          cases this
        rw [offCm l X env t (fun q s' hq hs' hd' => by
          have := huniq q j s' s t hs' hs hd' hd
          subst this
          exact hnl hq), offE i X env t (fun q s' hq hs' hd' => by
          have := huniq q j s' s t hs' hs hd' hd
          omega)]
    · rw [offCm l X env t (fun q s _ hs hd => hex ⟨q, s, hs, hd⟩), offE i X env t (fun q s _ hs hd => hex ⟨q, s, hs, hd⟩)]
  let St (l : Array Bool) (a : Act) (w : World) : Prop := ∃ X : Nat → ι, Holds w0 N (cm l X ++ env) ((al l).flatMap (tf TL m hp0 X) ++ hp) a w
  have fin : ∀ (l : Array Bool) (a : Act) (w : World), (∀ j, j < m → l.getD j false = true) → St l a w → wpList P ol.toArray Q (ol.drop m) a w := by
    rintro l a w hall ⟨X, hH⟩
    have hdn : dn l = List.range m := List.filter_eq_self.2 (fun p hp => hall p (List.mem_range.1 hp))
    have hav : av l = List.range (m + ny) := List.filter_eq_self.2 (fun p hp => by
      by_cases h : m ≤ p
      · simp [h]
      · rw [hall p (by omega)]; simp)
    have hal : al l = (List.range (m + ny)).filter (fun q => !((S.map (fun s => (⟨s.U, s.R, s.D⟩ : UR))).any (fun u => u.U.contains q))) := by
      show List.filter _ (av l) = _
      rw [hav]
      refine List.filter_congr (fun q hq => ?_)
      congr 1
      show List.any (dn l) _ = _
      rw [hdn, Bool.eq_iff_iff, List.any_eq_true, List.any_eq_true]
      constructor
      · rintro ⟨p, hp, h⟩
        cases hs : S[p]? with
        | none => simp only [Uq, hs] at h; cases h
        | some s =>
          simp only [Uq, hs] at h
          exact ⟨⟨s.U, s.R, s.D⟩, List.mem_map.2 ⟨s, List.mem_of_getElem? hs, rfl⟩, h⟩
      · rintro ⟨u, hu, h⟩
        obtain ⟨s, hs, rfl⟩ := List.mem_map.1 hu
        obtain ⟨p, hp1, hp2⟩ := List.mem_iff_getElem.1 hs
        have hs' : S[p]? = some s := by rw [List.getElem?_eq_getElem hp1, hp2]
        refine ⟨p, List.mem_range.2 (hlt p s hs'), ?_⟩
        simp only [Uq, hs']
        exact h
    rw [hal] at hH
    refine k X a w ⟨hH.size, hH.defers, ?_, by rw [← hL X, ← hhp]; exact hH.heap⟩
    intro t x hx
    refine hH.env t x ?_
    rw [← hx, hEf]
    have hS : S.reverse.flatMap (·.bind X) = (S.take m).reverse.flatMap (·.bind X) := by rw [List.take_of_length_le (by omega)]
    rw [hS]
    by_cases hex : ∃ (j : Nat) (s : Sp ι), S[j]? = some s ∧ s.d = some t
    · obtain ⟨j, s, hs, hd⟩ := hex
      rw [inCm l X env j s t (hall j (hlt j s hs)) hs hd, inE m X env j s t (hlt j s hs) hs hd]
    · rw [offCm l X env t (fun q s _ hs hd => hex ⟨q, s, hs, hd⟩), offE m X env t (fun q s _ hs hd => hex ⟨q, s, hs, hd⟩)]
  refine wpAny_inv (fun l a w => Dn l ∧ ((∀ i, m ≤ i → l.getD i false = false) ∧ St l a w ∨ ∃ k, m < k ∧ k ≤ ol.length ∧ (∀ i, l.getD i false = true ↔ i < k) ∧ wpList P ol.toArray Q (ol.drop k) a w)) ?_ ?_ (ends_of D.on) _ _ _ _ (by simp) ?_ ?_
  · rintro l a w i ⟨hdn, hI⟩ hls hi hni hr
    have hni' : l.getD i false = false := by
      have hil : i < l.size := by rw [hls]; exact hi
      have : l.getD i true = l.getD i false := by simp [Array.getD_eq_getD_getElem?, hil]
      rw [← this, hni]
    have hi' : i < ol.length := by simpa using hi
    have ho : ol[i]? = some ol[i] := List.getElem?_eq_getElem hi'
    have hoa : ol.toArray[i]? = some ol[i] := by simp
    have hset : ∀ j, (l.setIfInBounds i true).getD j false = true ↔ j = i ∨ l.getD j false = true := by
      intro j
      by_cases e : j = i
      · subst e
        rw [getD_set_self l j false (by rw [hls]; exact hi)]
        simp
      · rw [getD_set_other l i j false (Ne.symm e)]
        simp [e]
    have hai : Afters ol (fun i => l.getD i false = true) i := fun o ho' e he hb => by
      rw [ho] at ho'; cases ho'
      exact hr _ hoa e he hb
    have hdn' : Dn (l.setIfInBounds i true) := by
      intro j hj o hoj e he hb
      rcases (hset j).1 hj with rfl | hj
      · exact (hset _).2 (.inr (hai o hoj e he hb))
      · exact (hset _).2 (.inr (hdn j hj o hoj e he hb))
    have anc : ∀ j, ((masksOf ol []).getD i 0).testBit j = true → l.getD j false = true := fun j hj => hgood i j hj _ (fun q hq => hdn q hq) hai
    have ancD : ∀ p q, l.getD p false = true → ((masksOf ol []).getD p 0).testBit q = true → l.getD q false = true := fun p q hp hq => hgood p q hq _ (fun q hq => hdn q hq) (hdn p hp)
    have hlate' : (∀ j, m ≤ j → l.getD j false = false) → i < m → ∀ j, m ≤ j → (l.setIfInBounds i true).getD j false = false := by
      intro hlate him j hj
      cases hv : (l.setIfInBounds i true).getD j false with
      | false => rfl
      | true =>
        rcases (hset j).1 hv with rfl | h
        · omega
        · rw [hlate j hj] at h; cases h
    rcases hI with ⟨hlate, X, hH⟩ | ⟨k', hk, hkl, hl, hwp⟩
    · by_cases him : i < m
      · obtain ⟨s, hs, hd, hlc, hpart⟩ := hget i _ him ho
        have hsU : Uq i = s.U := by simp only [Uq, hs]
        have hUanc : ∀ q ∈ s.U ++ s.R, q ∈ av l ∧ q ≠ i := fun q hq => by
          rcases huse i s q hs hq with h | h
          · exact ⟨(memav l q).2 ⟨by omega, .inr (anc q h.2)⟩, by omega⟩
          · exact ⟨(memav l q).2 ⟨h.2, .inl h.1⟩, by omega⟩
        have husN : ∀ q ∈ s.U ++ s.R, us l q = false := fun q hq => by
          cases hb : us l q with
          | false => rfl
          | true =>
            exfalso
            obtain ⟨p, hp, hpq⟩ := List.any_eq_true.1 hb
            have hpl := ((memdn l p).1 hp).2
            cases hsp : S[p]? with
            | none => simp only [Uq, hsp] at hpq; cases hpq
            | some sp =>
              simp only [Uq, hsp] at hpq
              rcases List.mem_append.1 hq with hq | hq
              · have := hUone i p s sp q hs hsp hq (List.contains_iff_mem.1 hpq)
                subst this
                rw [hni'] at hpl; cases hpl
              · have := ancD p i hpl (hreadb i p s sp q hs hsp hq (List.contains_iff_mem.1 hpq))
                rw [hni'] at this; cases this
        have husi : us l i = false := by
          cases hb : us l i with
          | false => rfl
          | true =>
            exfalso
            obtain ⟨p, hp, hpq⟩ := List.any_eq_true.1 hb
            have hpl := ((memdn l p).1 hp).2
            cases hsp : S[p]? with
            | none => simp only [Uq, hsp] at hpq; cases hpq
            | some sp =>
              simp only [Uq, hsp] at hpq
              rcases huse p sp i hsp (List.mem_append_left _ (List.contains_iff_mem.1 hpq)) with h | h
              · have := ancD p i hpl h.2
                rw [hni'] at this; cases this
              · omega
        have mav' : ∀ q, q ∈ av (l.setIfInBounds i true) ↔ q = i ∨ q ∈ av l := fun q => by
          rw [memav, memav, hset]
          constructor
          · rintro ⟨h1, h2 | rfl | h2⟩
            · exact .inr ⟨h1, .inl h2⟩
            · exact .inl rfl
            · exact .inr ⟨h1, .inr h2⟩
          · rintro (rfl | ⟨h1, h2 | h2⟩)
            · exact ⟨by omega, .inr (.inl rfl)⟩
            · exact ⟨h1, .inl h2⟩
            · exact ⟨h1, .inr (.inr h2)⟩
        have mdn' : ∀ q, q ∈ dn (l.setIfInBounds i true) ↔ q = i ∨ q ∈ dn l := fun q => by
          rw [memdn, memdn, hset]
          constructor
          · rintro ⟨h1, rfl | h2⟩
            · exact .inl rfl
            · exact .inr ⟨h1, h2⟩
          · rintro (rfl | ⟨h1, h2⟩)
            · exact ⟨him, .inl rfl⟩
            · exact ⟨h1, .inr h2⟩
        have hus' : ∀ q, us (l.setIfInBounds i true) q = (us l q || s.U.contains q) := fun q => by
          rw [Bool.eq_iff_iff, Bool.or_eq_true]
          show List.any _ _ = true ↔ List.any _ _ = true ∨ _
          rw [List.any_eq_true, List.any_eq_true]
          constructor
          · rintro ⟨p, hp, h⟩
            rcases (mdn' p).1 hp with rfl | hp
            · rw [hsU] at h; exact .inr h
            · exact .inl ⟨p, hp, h⟩
          · rintro (⟨p, hp, h⟩ | h)
            · exact ⟨p, (mdn' p).2 (.inr hp), h⟩
            · exact ⟨i, (mdn' i).2 (.inl rfl), by rw [hsU]; exact h⟩
        let rest : List Nat := (av l).filter (fun q => !us l q && !((s.U ++ s.R).contains q))
        have hndav : ∀ l, (av l).Nodup := fun l => List.nodup_range.filter _
        have nci : ∀ q, q ∈ av l → (q ∈ s.U ++ s.R ∨ (s.U ++ s.R).contains q = false) := fun q _ => by
          cases hb : (s.U ++ s.R).contains q with
          | false => exact .inr rfl
          | true => exact .inl (List.contains_iff_mem.1 hb)
        have hinav : i ∉ av l := fun h => by
          rcases ((memav l i).1 h).2 with h | h
          · omega
          · rw [hni'] at h; cases h
        have hperm1 : (al l).Perm ((s.U ++ s.R) ++ rest) := by
          refine permOf ?_ ((hndav l).filter _) (fun q => ?_)
          · rw [List.nodup_append]
            refine ⟨hURnd i s hs, (hndav l).filter _, fun q hq q' hq' e => ?_⟩
            subst e
            have := (List.mem_filter.1 hq').2
            rw [List.contains_iff_mem.2 hq] at this
            simp at this
          · show q ∈ List.filter _ _ ↔ _
            rw [List.mem_filter, List.mem_append]
            constructor
            · rintro ⟨h1, h2⟩
              rcases nci q h1 with h | h
              · exact .inl h
              · exact .inr (List.mem_filter.2 ⟨h1, by rw [h, h2]; rfl⟩)
            · rintro (h | h)
              · exact ⟨(hUanc q h).1, by rw [husN q h]; rfl⟩
              · have := List.mem_filter.1 h
                refine ⟨this.1, ?_⟩
                have h2 := this.2
                rw [Bool.and_eq_true] at h2
                exact h2.1
        have hperm2 : (al (l.setIfInBounds i true)).Perm (i :: (s.R ++ rest)) := by
          refine permOf ?_ ((hndav _).filter _) (fun q => ?_)
          · rw [List.nodup_cons, List.nodup_append]
            refine ⟨fun h => ?_, (List.nodup_append.1 (hURnd i s hs)).2.1, (hndav l).filter _, fun q hq q' hq' e => ?_⟩
            · rcases List.mem_append.1 h with h | h
              · exact (hUanc i (List.mem_append_right _ h)).2 rfl
              · exact hinav (List.mem_filter.1 h).1
            · subst e
              have := (List.mem_filter.1 hq').2
              rw [List.contains_iff_mem.2 (List.mem_append_right _ hq)] at this
              simp at this
          · show q ∈ List.filter _ _ ↔ _
            rw [List.mem_filter, List.mem_cons, mav', hus', List.mem_append]
            constructor
            · rintro ⟨rfl | h1, h2⟩
              · exact .inl rfl
              · rw [Bool.not_or, Bool.and_eq_true] at h2
                rcases nci q h1 with h | h
                · rcases List.mem_append.1 h with h | h
                  · rw [List.contains_iff_mem.2 h] at h2
                    simp at h2
                  · exact .inr (.inl h)
                · exact .inr (.inr (List.mem_filter.2 ⟨h1, by rw [h, h2.1]; rfl⟩))
            · rintro (rfl | h | h)
              · refine ⟨.inl rfl, ?_⟩
                have : s.U.contains q = false := by
                  cases hb : s.U.contains q with
                  | false => rfl
                  | true => exact absurd rfl (hUanc q (List.mem_append_left _ (List.contains_iff_mem.1 hb))).2
                rw [husi, this]; rfl
              · refine ⟨.inr (hUanc q (List.mem_append_right _ h)).1, ?_⟩
                have : s.U.contains q = false := by
                  cases hb : s.U.contains q with
                  | false => rfl
                  | true => exact absurd rfl ((List.nodup_append.1 (hURnd i s hs)).2.2 q (List.contains_iff_mem.1 hb) q h)
                rw [husN q (List.mem_append_right _ h), this]; rfl
              · have := List.mem_filter.1 h
                refine ⟨.inr this.1, ?_⟩
                have h2 := this.2
                rw [Bool.and_eq_true] at h2
                have h3 : s.U.contains q = false := by
                  cases hb : s.U.contains q with
                  | false => rfl
                  | true =>
                    have := h2.2
                    rw [List.contains_iff_mem.2 (List.mem_append_left s.R (List.contains_iff_mem.1 hb))] at this
                    simp at this
                rw [h3, Bool.or_false]
                exact h2.1
        have close : ∀ (X' : Nat → ι) (w' : World), (∀ q, q ≠ i → X' q = X q) → HeapOK w0 ((tk TL i X' ++ s.R.flatMap (tf TL m hp0 X)) ++ (rest.flatMap (tf TL m hp0 X) ++ hp)) w' → St (l.setIfInBounds i true) (a.put (ol[i]).dst (s.v X')) w' := by
          intro X' w' hX' hh'
          have hlocq : ∀ (q : Nat) (sq : Sp ι), l.getD q false = true → S[q]? = some sq → sq.v X' = sq.v X ∧ tk TL q X' = tk TL q X := fun q sq hq hsq => hloc q sq hsq X' X (hX' q (fun e => by subst e; rw [hni'] at hq; cases hq)) (fun r hrD => hX' r (fun e => by
            subst e
            have := ancD q r hq (hdep q sq r hsq hrD).2
            rw [hni'] at this; cases this))
          refine ⟨X', ?_⟩
          have htfq : ∀ q, q ∈ av l → tf TL m hp0 X' q = tf TL m hp0 X q := fun q hq => by
            by_cases hqm : q < m
            · have hql : l.getD q false = true := by
                rcases ((memav l q).1 hq).2 with h | h
                · omega
                · exact h
              have hqS : q < S.length := by omega
              unfold tf
              rw [(hlocq q _ hql (List.getElem?_eq_getElem hqS)).2]
            · unfold tf
              have : Nat.blt q m = false := by
                cases hb : Nat.blt q m with
                | false => rfl
                | true => rw [Nat.blt_eq] at hb; exact absurd hb hqm
              rw [this]; rfl
          have hh2 : HeapOK w0 ((al (l.setIfInBounds i true)).flatMap (tf TL m hp0 X') ++ hp) w' := by
            refine hh'.perm ?_
            have e1 : rest.flatMap (tf TL m hp0 X) = rest.flatMap (tf TL m hp0 X') := flat_congr (fun q hq => (htfq q (List.mem_filter.1 hq).1).symm)
            have e2 : s.R.flatMap (tf TL m hp0 X) = s.R.flatMap (tf TL m hp0 X') := flat_congr (fun q hq => (htfq q (hUanc q (List.mem_append_right _ hq)).1).symm)
            have e3 : tk TL i X' = tf TL m hp0 X' i := by
              unfold tf
              rw [show Nat.blt i m = true by rw [Nat.blt_eq]; exact him]; rfl
            rw [e1, e2, e3, ← List.append_assoc, List.append_assoc (tf TL m hp0 X' i)]
            refine List.Perm.append_right _ ?_
            refine List.Perm.symm ((hperm2.flatMap_right _).trans ?_)
            rw [List.flatMap_cons, List.flatMap_append]
          have hcs : ∀ t, (∀ d, s.d = some d → t ≠ d) → look t (cm (l.setIfInBounds i true) X' ++ env) = look t (cm l X ++ env) := by
            intro t hne
            by_cases hex : ∃ (j : Nat) (sj : Sp ι), l.getD j false = true ∧ S[j]? = some sj ∧ sj.d = some t
            · obtain ⟨j, sj, hlj, hsj, hdj⟩ := hex
              rw [inCm _ X' env j sj t ((hset j).2 (.inr hlj)) hsj hdj, inCm l X env j sj t hlj hsj hdj, (hlocq j sj hlj hsj).1]
            · rw [offCm _ X' env t (fun q sq hq hsq hdq => by
                rcases (hset q).1 hq with rfl | hq
                · rw [hs] at hsq; cases hsq; exact hne t hdq rfl
                · exact hex ⟨q, sq, hq, hsq, hdq⟩), offCm l X env t (fun q sq hq hsq hdq => hex ⟨q, sq, hq, hsq, hdq⟩)]
          rw [hd]
          cases hsd : s.d with
          | none =>
            refine ⟨hH.size, hH.defers, ?_, hh2⟩
            intro t y hy
            refine hH.env t y ?_
            rw [← hy, hcs t (fun d e => by rw [hsd] at e; cases e)]
          | some d =>
            have hdN := D.lt i _ d him ho (hd.trans hsd)
            have hp1 := hH.put d (s.v X') hdN hh2
            refine ⟨hp1.size, hp1.defers, ?_, hh2⟩
            intro t y hy
            by_cases e : t = d
            · subst e
              rw [inCm _ X' env i s t ((hset i).2 (.inl rfl)) hs hsd] at hy
              cases hy
              exact hp1.env t _ (by rw [look_cons, if_pos rfl])
            · refine hp1.env t y ?_
              rw [look_cons, if_neg e, ← hy, hcs t (fun d' e' => by rw [hsd] at e'; cases e'; exact e)]
        have hH2 : HeapOK w0 ((s.U ++ s.R).flatMap (tf TL m hp0 X) ++ (rest.flatMap (tf TL m hp0 X) ++ hp)) w := by
          refine hH.heap.perm ?_
          rw [← List.append_assoc]
          refine List.Perm.append_right hp ?_
          have p1 := hperm1.flatMap_right (tf TL m hp0 X)
          rwa [List.flatMap_append] at p1
        have hag : ∀ t ∈ (ol[i]).looksAt ol.toArray, look t (cm l X ++ env) = look t ((S.take i).reverse.flatMap (·.bind X) ++ env) := fun t ht => agree l X i _ t hdn him ho hni' hai ht
        have hop : ∀ t, .tmp t ∈ (ol[i]).op.operands → look t (cm l X ++ env) = look t ((S.take i).reverse.flatMap (·.bind X) ++ env) := fun t ht => hag t (List.mem_append_left _ (List.mem_filterMap.2 ⟨.tmp t, by simpa using ht, rfl⟩))
        have hgu : ∀ j tj b, (ol[i]).guard = some (j, b) → (ol.toArray[j]?).bind (·.dst) = some tj → look tj (cm l X ++ env) = look tj ((S.take i).reverse.flatMap (·.bind X) ++ env) := fun j tj b hg hj => hag tj (List.mem_append_right _ (by rw [hg]; simp only [Option.toList_some, List.flatMap_cons, List.flatMap_nil, List.append_nil]; rw [hj]; simp))
        unfold Go.wpOp
        simp only [hoa]
        have run : (SpE P w0 hp0 m ny TL i ol[i] (fun X => (S.take i).reverse.flatMap (·.bind X) ++ env) s.v s.U s.R) → (ol[i]).wp P a w (fun a' w' => Dn (l.setIfInBounds i true) ∧ ((∀ j, m ≤ j → (l.setIfInBounds i true).getD j false = false) ∧ St (l.setIfInBounds i true) a' w' ∨ ∃ k, m < k ∧ k ≤ ol.length ∧ (∀ j, (l.setIfInBounds i true).getD j false = true ↔ j < k) ∧ wpList P ol.toArray Q (ol.drop k) a' w')) Q := fun hq =>
          ((hq X).any (D.sel i _ him ho) hop).wp hH.env (by rw [← hhp]; exact hH2) (fun x w' hh' => ⟨hdn', .inl ⟨hlate' hlate him, close (gset X i x) w' (fun q hq => gset_other X i x hq) (by rw [← hhp] at hh'; exact hh')⟩⟩)
        rcases hpart with ⟨hg, hq⟩ | ⟨j, tj, b, hg, hj, hb, hq⟩ | ⟨j, tj, b, x, hg, hj, hx, hb, hv, hU0, hR0, hT0⟩
        · rw [if_pos (by simp [Region.wanted, hg])]
          exact .inl (run hq)
        · have hw := wanted_of (ops := ol.toArray) hg hj (hH.env tj _ ((hgu j tj b hg hj).trans (hb X)))
          rw [hw, if_pos (by simp)]
          exact .inl (run hq)
        · have hw := unwanted_of (ops := ol.toArray) hg hj hx (hH.env tj _ ((hgu j tj b hg hj).trans (hb X)))
          rw [hw, if_neg (by simp)]
          have := close X w (fun _ _ => rfl) (by
            rw [hU0, hR0] at hH2
            rw [hT0 X, hR0]
            exact hH2)
          rw [hv X] at this
          exact ⟨hdn', .inl ⟨hlate' hlate him, this⟩⟩
      · have hall : ∀ j, j < i → l.getD j false = true := fun j hj => anc j (D.late i j (by omega) hi' hj)
        have him2 : i = m := by
          rcases Nat.lt_or_ge m i with h | h
          · have := hall m h; rw [hlate m (Nat.le_refl _)] at this; cases this
          · omega
        subst him2
        have hwl := fin l a w hall ⟨X, hH⟩
        rw [List.drop_eq_getElem_cons hi'] at hwl
        unfold Go.wpOp
        simp only [hoa]
        unfold wpList at hwl
        have hfin : ∀ a w, wpList P ol.toArray Q (ol.drop (i + 1)) a w → Dn (l.setIfInBounds i true) ∧ ((∀ j, i ≤ j → (l.setIfInBounds i true).getD j false = false) ∧ St (l.setIfInBounds i true) a w ∨ ∃ k, i < k ∧ k ≤ ol.length ∧ (∀ j, (l.setIfInBounds i true).getD j false = true ↔ j < k) ∧ wpList P ol.toArray Q (ol.drop k) a w) := by
          intro a w h
          refine ⟨hdn', .inr ⟨i + 1, by omega, by omega, fun j => ?_, h⟩⟩
          rw [hset j]
          constructor
          · rintro (rfl | h2)
            · omega
            · by_cases hji : i ≤ j
              · rw [hlate j hji] at h2; cases h2
              · omega
          · intro h2
            by_cases hji : j = i
            · exact .inl hji
            · exact .inr (hall j (by omega))
        split
        · rename_i hw
          rw [if_pos hw] at hwl
          exact hwl.imp (Oper.wp_mono hfin) (fun x => x)
        · rename_i hw
          rw [if_neg hw] at hwl
          exact hfin _ _ hwl
    · have hk2 : i = k' := by
        have h1 : ¬ i < k' := fun h => by
          have := (hl i).2 h
          rw [hni'] at this; cases this
        rcases Nat.lt_or_ge k' i with h | h
        · have := (hl k').1 (anc k' (D.late i k' (by omega) hi' h))
          omega
        · omega
      subst hk2
      rw [List.drop_eq_getElem_cons hi'] at hwp
      unfold Go.wpOp
      simp only [hoa]
      unfold wpList at hwp
      have hfin : ∀ a w, wpList P ol.toArray Q (ol.drop (i + 1)) a w → Dn (l.setIfInBounds i true) ∧ ((∀ j, m ≤ j → (l.setIfInBounds i true).getD j false = false) ∧ St (l.setIfInBounds i true) a w ∨ ∃ k, m < k ∧ k ≤ ol.length ∧ (∀ j, (l.setIfInBounds i true).getD j false = true ↔ j < k) ∧ wpList P ol.toArray Q (ol.drop k) a w) := by
        intro a w h
        refine ⟨hdn', .inr ⟨i + 1, by omega, by omega, fun j => ?_, h⟩⟩
        rw [hset j, hl j]
        omega
      split
      · rename_i hw
        rw [if_pos hw] at hwp
        exact hwp.imp (Oper.wp_mono hfin) (fun x => x)
      · rename_i hw
        rw [if_neg hw] at hwp
        exact hfin _ _ hwp
  · rintro l a w ⟨hdn, hI⟩ hall
    rcases hI with ⟨hlate, hSt⟩ | ⟨k', hk, hkl, hl, hwp⟩
    · have hmm : m = ol.length := by
        rcases Nat.lt_or_ge m ol.length with h | h
        · have := hall m (by simpa using h)
          rw [hlate m (Nat.le_refl _)] at this; cases this
        · omega
      have := fin l a w (fun j hj => hall j (by simp; omega)) hSt
      rw [hmm, List.drop_length] at this
      exact this
    · have hkk : k' = ol.length := by
        rcases Nat.lt_or_ge k' ol.length with h | h
        · have := (hl k').1 (hall k' (by simpa using h))
          omega
        · omega
      rw [hkk, List.drop_length] at hwp
      exact hwp
  · unfold cntF
    refine Nat.le_trans (List.countP_le_length) (by simp)
  · have hrep : ∀ j, (Array.replicate ol.toArray.size false).getD j false = false := by
      intro j
      by_cases hj : j < ol.length <;> simp [Array.getD_eq_getD_getElem?, hj]
    refine ⟨fun i hi => ?_, .inl ⟨fun j _ => hrep j, fun _ => Classical.choice ‹_›, ?_⟩⟩
    · rw [hrep i] at hi; cases hi
    · have hdn0 : dn (Array.replicate ol.toArray.size false) = [] := by
        show List.filter _ _ = []
        rw [List.filter_eq_nil_iff]
        intro i _
        rw [hrep i]
        simp
      have hav0 : (av (Array.replicate ol.toArray.size false)).filter (fun q => !us (Array.replicate ol.toArray.size false) q) = (List.range ny).map (m + ·) := by
        have h1 : av (Array.replicate ol.toArray.size false) = (List.range ny).map (m + ·) := by
          show List.filter _ (List.range (m + ny)) = _
          rw [List.range_add, List.filter_append]
          have e1 : (List.range m).filter (fun q => decide (m ≤ q) || (Array.replicate ol.toArray.size false).getD q false) = [] := List.filter_eq_nil_iff.2 (fun q hq => by
            rw [hrep q]
            have := List.mem_range.1 hq
            simp; omega)
          have e2 : ((List.range ny).map (m + ·)).filter (fun q => decide (m ≤ q) || (Array.replicate ol.toArray.size false).getD q false) = (List.range ny).map (m + ·) := List.filter_eq_self.2 (fun q hq => by
            obtain ⟨r, _, rfl⟩ := List.mem_map.1 hq
            simp)
          rw [e1, e2]; rfl
        rw [h1]
        refine List.filter_eq_self.2 (fun q _ => ?_)
        show (!(List.any (dn _) _)) = true
        rw [hdn0]; rfl
      show Holds w0 N ((dn _).flatMap _ ++ env) (((av _).filter _).flatMap _ ++ hp) _ _
      rw [hdn0, hav0]
      have hh2 := hh.heap
      have e : ((List.range ny).map (m + ·)).flatMap (tf TL m hp0 (fun _ => Classical.choice ‹_›)) = hp0.take ny := by
        rw [← take_pick (m := m) ny hny]
        refine flat_congr (fun q hq => ?_)
        obtain ⟨r, _, rfl⟩ := List.mem_map.1 hq
        unfold tf
        have : Nat.blt (m + r) m = false := by
          cases hb : Nat.blt (m + r) m with
          | false => rfl
          | true => rw [Nat.blt_eq] at hb; omega
        rw [this]; rfl
      rw [e, hhp, List.take_append_drop]
      exact ⟨hh.size, hh.defers, hh.env, hh2.drawn _⟩
end
end Go.Sx
end
section
namespace Go.Sx
open Go.RowKit
set_option linter.unusedVariables false
set_option linter.unusedSimpArgs false
section
variable {P : Program} {ops : Array Oper} {Q : Exit → Act → World → Prop} {w0 : World} {N : Fr} {env : Env} {hp : List Item} {o : Oper} {l n : Nat}
def Item.solid (w0 : World) : Item → Prop
  | .blk _ _ _ => True
  | .own _ _ _ _ _ _ => True
  | .obj _ _ => False
  | .ro F _ => ∀ k, F k → k < w0.heap.size
  | .rd _ _ => True
  | .fam _ => True
theorem solid_foot {w W : World} {it : Item} (hs : it.solid w0) (hk : it.ok W) {k : Nat} (hf : it.foot k) : k < w0.heap.size ∨ ∃ o : Obj, W.heap[k]? = some o ∧ o.isCells = true := by
  cases it with
  | blk b cs T => obtain rfl : k = b := hf; exact .inr ⟨_, hk, rfl⟩
  | obj b o => exact hs.elim
  | fam bs => obtain ⟨x, hx, rfl⟩ := hf; exact .inr ⟨_, hk.2 x hx, rfl⟩
  | ro F w => exact .inl (hs k hf)
  | rd A cs =>
    obtain ⟨hc, ad, rfl, rfl⟩ := hf
    rcases hk with hk | ⟨_, e, hk⟩
    · exact absurd hk hc
    · cases e
      obtain ⟨c, r, rfl⟩ : ∃ c r, cs = c :: r := by cases cs with | nil => exact absurd rfl hc | cons c r => exact ⟨c, r, rfl⟩
      have := hk 0 c rfl
      rw [add_zero] at this
      unfold World.cell? at this
      split at this
      · rename_i cc e f ho; exact .inr ⟨_, ho, rfl⟩
      · cases this
  | own base e size v n xs =>
    rcases hk.2 with ⟨rfl, _⟩ | ⟨g, cap, cur, rfl, hg, hh, r⟩
    · cases hf
    · cases hf; exact .inr ⟨_, hh, rfl⟩
theorem HeapOK.grown {W W' : World} {row : Option Nat} {B : Nat} (h : HeapOK w0 hp W) (hs : ∀ it ∈ hp, it.solid w0) (hB : w0.heap.size ≤ B) (hg : W.grownBy W' row) (hr : ∀ r, row = some r → B ≤ r ∧ ∃ o : Obj, W.heap[r]? = some o ∧ o.isCells = false) : HeapOK w0 hp W' where
  os := hg.os.trans h.os
  tape := hg.tape.trans h.tape
  output := hg.output.trans h.output
  size := Nat.le_trans h.size hg.size
  ok := fun it hi => Item.ok_move (h.ok it hi) (fun k hk => hg.block k (h.bound it hi k hk) (fun e => by
    obtain ⟨h1, o, ho, hc⟩ := hr k e.symm
    rcases solid_foot (w := W) (hs it hi) (h.ok it hi) hk with h2 | ⟨o', ho', hc'⟩
    · omega
    · rw [ho] at ho'; cases ho'; rw [hc] at hc'; cases hc'))
  bound := fun it hi k hk => Nat.lt_of_lt_of_le (h.bound it hi k hk) hg.size
  apart := h.apart
def rest (W : World) (hp : List Item) : Item := .ro (fun k => k < W.heap.size ∧ ∀ it ∈ hp, ¬ it.foot k) W
end
end Go.Sx
end
section
namespace Go.Sx
open Go.RowKit
set_option linter.unusedVariables false
set_option linter.unusedSimpArgs false
section
variable {P : Program} {ops : Array Oper} {Q : Exit → Act → World → Prop} {w0 : World} {N : Fr} {l : List Oper} {env : Env} {hp : List Item} {o : Oper}
theorem wl_skipU {d j tj : Nat} {b : Bool} (hg : o.guard = some (j, b)) (hj : (ops[j]?).bind (·.dst) = some tj) (hb : look tj env = some undef) (hd : o.dst = some d) (hN : d < N) (k : WL P ops Q w0 N l ((d, undef) :: env) hp) : WL P ops Q w0 N (o :: l) env hp := by
  intro a w h
  have hw : Region.wanted o (yielded ops a.tmps) = false := by
    have h1 := h.env tj _ hb
    have h2 : a.tmps[tj]?.getD undef = undef := by rw [← Array.getD_eq_getD_getElem?]; exact h1
    simp only [Region.wanted, hg, yielded, hj]
    cases hx : a.tmps[tj]? with
    | none => simp [hx]
    | some x => rw [hx] at h2; simp at h2; subst h2; simp [hx, undef]
  unfold wpList
  rw [hw]
  simp only [Bool.false_eq_true, if_false]
  rw [hd]
  exact k _ _ (h.put d undef hN h.heap)
end
end Go.Sx
end
