/- Texts of mine, put together (no statement stands here). -/
import Derived.Test.YtbcijmpkmmcdeaaDoorCMTells1
import Derived.Scope
import Derived.RangeFuncNested
import Derived.OrdersIn
import Derived.RangeFuncLeaves
import Derived.Shelf.Abstract
section
namespace Go.Sx
open Go.RowKit
set_option linter.unusedVariables false
set_option linter.unusedSimpArgs false
section
variable {P : Program} {ops : Array Oper} {Q : Exit → Act → World → Prop} {w0 : World} {N : Fr} {l : List Oper} {env : Env} {hp : List Item} {o : Oper}
theorem wl_ownForm {i base E sz n : Nat} {v : Value} {xs : List Value} (hi : hp[i]? = some (.own base E sz v n xs)) (k : ∀ A c, v = .slice A n c → n ≤ c → WL P ops Q w0 N l env hp) : WL P ops Q w0 N l env hp := by
  intro a w h
  have hown : w.ownsRow base E sz v n xs := h.heap.get hi
  rcases hown.2 with ⟨e, e0⟩ | ⟨g, cap, cur, e, hg, hh, hn, r⟩
  · exact k none 0 (by rw [e, e0]) (by omega) a w h
  · exact k _ cap e hn a w h
theorem wc_ownForm {c : Code} {i base E sz n : Nat} {v : Value} {xs : List Value} (hi : hp[i]? = some (.own base E sz v n xs)) (k : ∀ A c', v = .slice A n c' → n ≤ c' → WC P c Q w0 N env hp) : WC P c Q w0 N env hp := by
  intro a w h
  have hown : w.ownsRow base E sz v n xs := h.heap.get hi
  rcases hown.2 with ⟨e, e0⟩ | ⟨g, cap, cur, e, hg, hh, hn, r⟩
  · exact k none 0 (by rw [e, e0]) (by omega) a w h
  · exact k _ cap e hn a w h
theorem own_cell {w : World} {base E sz n c : Nat} {A : Option Addr} {xs : List Value} (h : w.ownsRow base E sz (.slice A n c) n xs) (hs : 0 < sz) : ∃ ad, (0 < n → A = some ad) ∧ ∀ j u, xs[j]? = some u → w.cell? (ad.add j) = some u := by
  rcases h.2 with ⟨e, e0⟩ | ⟨g, cap, cur, e, hg, hh, hn, hcap, hcs, htake⟩
  · refine ⟨⟨0, 0, none⟩, fun h => by omega, fun j u hu => ?_⟩
    have : xs = [] := List.eq_nil_of_length_eq_zero (by rw [h.1, e0, Nat.zero_mul])
    rw [this] at hu
    simp at hu
  · cases e
    refine ⟨⟨g, 0, none⟩, fun _ => rfl, fun j u hu => ?_⟩
    rw [addr_add, Nat.zero_add, cell_of_row w g j cur E (0, 0) hh]
    rw [← htake, List.getElem?_take] at hu
    split at hu
    · simpa using hu
    · cases hu
theorem own_le {w : World} {base E sz n : Nat} {v : Value} {xs : List Value} (h : w.ownsRow base E sz v n xs) : n ≤ maxLen := by
  rcases h.2 with ⟨e, e0⟩ | ⟨g, cap, cur, e, hg, hh, hn, hcap, hcs, htake⟩
  · rw [e0]; exact Nat.zero_le _
  · exact Nat.le_trans hn hcap
theorem wc_own {c : Code} {E sz : Nat} (k : WC P c Q w0 N env (.own 0 E sz (.slice none 0 0) 0 [] :: hp)) : WC P c Q w0 N env hp := fun a w h => k a w
  ⟨h.size, h.defers, h.env, ⟨h.heap.os, h.heap.tape, h.heap.output, h.heap.size, fun it hi => by
    rcases List.mem_cons.1 hi with rfl | hi
    · exact World.ownsRow_nil w 0 E sz
    · exact h.heap.ok it hi, fun it hi kk hk => by
    rcases List.mem_cons.1 hi with rfl | hi
    · cases hk
    · exact h.heap.bound it hi kk hk, List.pairwise_cons.2 ⟨fun it hi => .inr fun kk hk => (by cases hk), h.heap.apart⟩⟩⟩
theorem built_parts {E sz n : Nat} {ps : List (Nat × Value)} {cs : List Value} (hs : P.sizeIs E = some sz) (h0 : 0 < sz) (hz : ((P.info? E).bind (·.zero)).map (fun z => z.cells.size) = some sz) (h1 : ∀ p ∈ ps, p.2.cells.size = sz) (hidx : ps.map (·.1) = List.range n) (hn0 : 0 < n) (hsm : n * sz ≤ 2 ^ 24) (hc : ps.flatMap (fun p => p.2.cells.toList) = cs) : P.builtSlice E n ps = some cs.toArray := by
  have hlen : ps.length = n := by
    have := congrArg List.length hidx
    simpa using this
  have e : ps = ((ps.map (·.2)).zipIdx 0).map fun x => (x.2, x.1) := by
    apply List.ext_getElem?
    intro i
    have hi := congrArg (fun l => l[i]?) hidx
    simp only [List.getElem?_map] at hi
    simp only [List.getElem?_map, List.getElem?_zipIdx]
    cases hp : ps[i]? with
    | none => simp
    | some p =>
      rw [hp] at hi
      have hlt : i < ps.length := (List.getElem?_eq_some_iff.1 hp).1
      rw [List.getElem?_range (by omega)] at hi
      simp only [Option.map_some, Option.some.injEq] at hi
      simp only [Option.map_some, Nat.zero_add, Option.some.injEq]
      rw [← hi]
  rw [e]
  refine built_slice hs h0 hz (fun v hv => ?_) (by simp [hlen]) hn0 hsm ?_
  · obtain ⟨p, hp, rfl⟩ := List.mem_map.1 hv
    exact h1 p hp
  · rw [← hc, List.flatMap_map]
theorem built_one {E sz : Nat} {v : Value} {cs : List Value} (hs : P.sizeIs E = some sz) (h0 : 0 < sz) (hz : ((P.info? E).bind (·.zero)).map (fun z => z.cells.size) = some sz) (hsm : 1 * sz ≤ 2 ^ 24) (hc : v.cells = cs.toArray) (hl : cs.length = sz) : P.builtSlice E 1 [(0, v)] = some cs.toArray :=
  built_parts hs h0 hz (fun p hp => by obtain rfl := List.mem_singleton.1 hp; rw [hc]; simpa using hl) rfl (by decide) hsm (by simp [hc])
theorem HeapOK.at {w : World} {hp' : List Item} (h : HeapOK w0 hp w) (is : List Nat) (hn : is.Nodup) (he : is.map (fun i => hp[i]?) = hp'.map some) : HeapOK w0 hp' w := by
  have hget : ∀ (a : Nat) (x : Item), hp'[a]? = some x → ∃ i : Nat, is[a]? = some i ∧ hp[i]? = some x := by
    intro a x hx
    have := congrArg (fun l => l[a]?) he
    simp only [List.getElem?_map, hx, Option.map_some] at this
    cases hi : is[a]? with
    | none => rw [hi] at this; cases this
    | some i =>
      rw [hi] at this
      exact ⟨i, rfl, by simpa using this⟩
  have hmem : ∀ it ∈ hp', it ∈ hp := by
    intro it hi
    obtain ⟨a, ha, rfl⟩ := List.mem_iff_getElem.1 hi
    obtain ⟨i, _, h2⟩ := hget a _ (List.getElem?_eq_getElem ha)
    exact List.mem_of_getElem? h2
  refine ⟨h.os, h.tape, h.output, h.size, fun it hi => h.ok it (hmem it hi), fun it hi => h.bound it (hmem it hi), ?_⟩
  rw [List.pairwise_iff_getElem]
  intro a b ha hb hab
  obtain ⟨i, hi1, hi2⟩ := hget a _ (List.getElem?_eq_getElem ha)
  obtain ⟨j, hj1, hj2⟩ := hget b _ (List.getElem?_eq_getElem hb)
  obtain ⟨hia, hi3⟩ := List.getElem?_eq_some_iff.1 hi1
  obtain ⟨hjb, hj3⟩ := List.getElem?_eq_some_iff.1 hj1
  have hne : i ≠ j := by
    intro e
    have h1 := List.pairwise_iff_getElem.1 hn a b hia hjb hab
    exact h1 (by rw [hi3, hj3, e])
  obtain ⟨hi4, hi5⟩ := List.getElem?_eq_some_iff.1 hi2
  obtain ⟨hj4, hj5⟩ := List.getElem?_eq_some_iff.1 hj2
  have hap := List.pairwise_iff_getElem.1 h.apart
  rcases Nat.lt_or_ge i j with hij | hij
  · have := hap i j hi4 hj4 hij
    rw [hi5, hj5] at this
    exact this
  · have := hap j i hj4 hi4 (by omega)
    rw [hi5, hj5] at this
    exact this.symm
theorem HeapOK.ownNil {w : World} (h : HeapOK w0 hp w) (E sz : Nat) : HeapOK w0 (.own 0 E sz (.slice none 0 0) 0 [] :: hp) w :=
  ⟨h.os, h.tape, h.output, h.size, fun it hi => by
    rcases List.mem_cons.1 hi with rfl | hi
    · exact World.ownsRow_nil w 0 E sz
    · exact h.ok it hi, fun it hi kk hk => by
    rcases List.mem_cons.1 hi with rfl | hi
    · cases hk
    · exact h.bound it hi kk hk, List.pairwise_cons.2 ⟨fun it hi => .inr fun kk hk => (by cases hk), h.apart⟩⟩
theorem HeapOK.newOwn {w w1 : World} {E sz n : Nat} {v : Value} {xs : List Value} (h : HeapOK w0 hp w) (hb : Below w.heap.size w w1) (ho : w1.ownsRow w.heap.size E sz v n xs) : HeapOK w0 (.own 0 E sz v n xs :: hp) w1 := by
  have h1 := h.below hb
  have hfoot : ∀ k, v.ownBlock = some k → w.heap.size ≤ k ∧ k < w1.heap.size := by
    intro k hk
    refine ⟨?_, own_block_lt ho k hk⟩
    rcases ho.2 with ⟨rfl, _⟩ | ⟨g, cap, cur, rfl, hg, hh, r⟩
    · cases hk
    · cases hk; exact hg
  refine ⟨h1.os, h1.tape, h1.output, h1.size, ?_, ?_, ?_⟩
  · intro it hi
    rcases List.mem_cons.1 hi with rfl | hi
    · obtain ⟨a, b⟩ := ho
      refine ⟨a, ?_⟩
      rcases b with b | ⟨g, cap, cur, e, hg, r⟩
      · exact .inl b
      · exact .inr ⟨g, cap, cur, e, Nat.zero_le _, r⟩
    · exact h1.ok it hi
  · intro it hi k hk
    rcases List.mem_cons.1 hi with rfl | hi
    · exact (hfoot k hk).2
    · exact h1.bound it hi k hk
  · refine List.pairwise_cons.2 ⟨fun it hi => .inr fun k hk hk2 => ?_, h1.apart⟩
    have := (hfoot k hk).1
    have := h.bound it hi k hk2
    omega
end
end Go.Sx
end
section
namespace Go.Sx
open Go.RowKit
set_option linter.unusedVariables false
set_option linter.unusedSimpArgs false
theorem HeapOK.perm {w0 w : World} {hp hp' : List Item} (h : HeapOK w0 hp w) (hp_ : hp.Perm hp') : HeapOK w0 hp' w :=
  ⟨h.os, h.tape, h.output, h.size, fun it hi => h.ok it (hp_.mem_iff.2 hi), fun it hi => h.bound it (hp_.mem_iff.2 hi),
    (hp_.pairwise_iff (R := Apart) (fun hxy => hxy.symm)).1 h.apart⟩
def YesM {ι : Type} (P : Program) (w0 : World) (v : ι → Value) (hp' : ι → List Item) : Result Go.Next → Prop
  | .ok (.value u) w' => ∃ x, u = v x ∧ HeapOK w0 (hp' x) w'
  | .ok .skip w' => ∃ x, undef = v x ∧ HeapOK w0 (hp' x) w'
  | .ok (.enter f args) w' => Calls P f args w' (fun e w'' => ∃ x, e = .returned (v x) ∧ HeapOK w0 (hp' x) w'')
  | _ => False
def OpE {ι : Type} (P : Program) (o : Oper) (env : Env) (w0 : World) (hp X : List Item) (v : ι → Value) (X' : ι → List Item) : Prop :=
  ∀ (R : List Item) (a : Act) (w : World), EnvOK env a → HeapOK w0 (X ++ (R ++ hp)) w → YesM P w0 v (fun x => X' x ++ (R ++ hp)) ((execOp a.eval o).run P w)
abbrev OpM {ι : Type} (P : Program) (o : Oper) (env : Env) (w0 : World) (hp : List Item) (v : ι → Value) (it : ι → Item) : Prop := OpE P o env w0 hp [] v (fun x => [it x])
theorem OpE.wp {ι : Type} {P : Program} {o : Oper} {env : Env} {w0 : World} {hp X R : List Item} {v : ι → Value} {X' : ι → List Item} (h : OpE P o env w0 hp X v X') {a : Act} {w : World} (he : EnvOK env a) (hh : HeapOK w0 (X ++ (R ++ hp)) w) {K : Act → World → Prop} {Q : Exit → Act → World → Prop}
    (k : ∀ x w', HeapOK w0 (X' x ++ (R ++ hp)) w' → K (a.put o.dst (v x)) w') : o.wp P a w K Q := by
  have := h R a w he hh
  unfold Oper.wp
  generalize (execOp a.eval o).run P w = r at this
  cases r with
  | halt x w' => exact this.elim
  | ok n w' =>
    cases n <;> try exact this.elim
    · obtain ⟨x, rfl, hb⟩ := this
      exact k x w' hb
    · obtain ⟨x, hx, hb⟩ := this
      rw [Oper.upon_skip, hx]
      exact k x w' hb
    · rw [Oper.upon_enter]
      refine Calls.mono this ?_
      rintro e w'' ⟨x, rfl, hb⟩
      exact k x w'' hb
section
variable {P : Program} {ops : Array Oper} {Q : Exit → Act → World → Prop} {w0 : World} {N : Fr} {l : List Oper} {env : Env} {hp : List Item} {o : Oper}
theorem om_buildSlice {T E : TypeId} {n : Nat} {ps : Array (Nat × Operand)} {vs : List (Nat × Value)} {cs : List Value} (ho : o.op = .buildSlice T n ps) (hp_ : evP ps.toList env = some vs) (hT : P.underlying T = some (.slice E)) (hb : P.builtSlice E n vs = some cs.toArray) :
    OpM P o env w0 hp (fun b : Nat => .slice (some ⟨b, 0, none⟩) n n) (fun b => .blk b cs E) := by
  intro R a w he hh
  have hr : (execOp a.eval o).run P w = .ok (.value (.slice (some ⟨w.heap.size, 0, none⟩) n n)) (w.alloc (.cells cs.toArray E (0, 0))) := by
    have h1 := evPA_of he hp_
    unfold Program.builtSlice at hb
    cases hie : P.info? E with
    | none => simp [hie] at hb
    | some ie =>
      simp only [hie] at hb
      cases hz : ie.zero with
      | none => simp [hz] at hb
      | some z =>
        simp only [hz] at hb
        by_cases hc : n * ie.size > 2 ^ 24 ∨ n * ie.size = 0
        · simp [hc] at hb
        · rw [if_neg hc] at hb
          unfold execOp
          simp only [ho, Sem.run_bind]
          rw [h1, run_buildSlice w T E n _ cs.toArray ie z hT hie hz (fun h' => hc (Or.inl h')) (fun h' => hc (Or.inr h')) hb]
          rfl
  rw [hr]
  exact ⟨_, rfl, hh.allocRow cs E⟩
theorem OpE.any {ι : Type} {env' : Env} {X : List Item} {v : ι → Value} {X' : ι → List Item} (h : OpE P o env w0 hp X v X') (hsel : ∀ cs b, o.op ≠ .select cs b) (ha : ∀ t, .tmp t ∈ o.op.operands → look t env' = look t env) : OpE P o env' w0 hp X v X' := by
  classical
  intro R a w he hh
  let M := (env.map (·.1)).sum + a.tmps.size + 1
  have hM : M = (env.map (·.1)).sum + a.tmps.size + 1 := rfl
  let a2 : Act := { tmps := Array.ofFn (n := M) (fun t => if Operand.tmp t.1 ∈ o.op.operands then a.tmps.getD t.1 undef else (look t.1 env).getD undef), defers := [] }
  have hg : ∀ t, a2.tmps.getD t undef = if t < M then (if Operand.tmp t ∈ o.op.operands then a.tmps.getD t undef else (look t env).getD undef) else undef := by
    intro t
    by_cases ht : t < M
    · simp [a2, Array.getD_eq_getD_getElem?, ht]
    · simp [a2, Array.getD_eq_getD_getElem?, ht]
  have h2 : EnvOK env a2 := by
    intro t x hx
    have hm := look_mem hx
    have : t ≤ (env.map (·.1)).sum := sum_ge (List.mem_map.2 ⟨(t, x), hm, rfl⟩)
    rw [hg t, if_pos (by omega)]
    split
    · rename_i ho
      exact he t x (by rw [ha t ho]; exact hx)
    · rw [hx]; rfl
  have hev : execOp a2.eval o = execOp a.eval o := execOp_congr o hsel (fun x hx => by
    cases x with
    | tmp t =>
      show a2.tmps.getD t undef = a.tmps.getD t undef
      rw [hg t]
      by_cases ht : t < M
      · rw [if_pos ht, if_pos hx]
      · rw [if_neg ht]
        have : ¬ t < a.tmps.size := fun h => ht (Nat.lt_succ_of_le (Nat.le_trans (Nat.le_of_lt h) (Nat.le_add_left _ _)))
        simp [Array.getD_eq_getD_getElem?, this]
    | _ => rfl)
  have := h R a2 w h2 hh
  rw [hev] at this
  exact this
inductive ChainM (P : Program) (w0 : World) (hp : List Item) (ops : Array Oper) (M : List Nat) (N : Fr) : Nat → List Oper → Env → Env → Prop
  | nil (i : Nat) (env : Env) : ChainM P w0 hp ops M N i [] env []
  | part {i : Nat} {o : Oper} {l : List Oper} {env out : Env} {d : Nat} {v : Value} (hn : M.contains i = false) (h : Part P w0 hp ops o env d v) (k : ChainM P w0 hp ops M N (i + 1) l ((d, v) :: env) out) : ChainM P w0 hp ops M N i (o :: l) env ((d, v) :: out)
  | gap {i : Nat} {o : Oper} {l : List Oper} {env out : Env} (h : M.contains i = true) (k : ChainM P w0 hp ops M N (i + 1) l ((N.n, undef) :: env) out) : ChainM P w0 hp ops M N i (o :: l) env ((N.n, undef) :: out)
theorem ChainM.yield {M : List Nat} {i : Nat} {o : Oper} {l : List Oper} {env out : Env} {d : Nat} {v : Value} (hq : OpQ P o env w0 hp v) (hg : o.guard = none) (hd : o.dst = some d) (hn : M.contains i = false) (k : ChainM P w0 hp ops M N (i + 1) l ((d, v) :: env) out) : ChainM P w0 hp ops M N i (o :: l) env ((d, v) :: out) := .part hn ⟨hd, .inl ⟨hg, hq⟩⟩ k
theorem ChainM.want {M : List Nat} {i : Nat} {o : Oper} {l : List Oper} {env out : Env} {d j tj : Nat} {b : Bool} {v : Value} (hq : OpQ P o env w0 hp v) (hg : o.guard = some (j, b)) (hj : (ops[j]?).bind (·.dst) = some tj) (hb : look tj env = some (.bool b)) (hd : o.dst = some d) (hn : M.contains i = false) (k : ChainM P w0 hp ops M N (i + 1) l ((d, v) :: env) out) : ChainM P w0 hp ops M N i (o :: l) env ((d, v) :: out) := .part hn ⟨hd, .inr (.inl ⟨_, _, _, hg, hj, hb, hq⟩)⟩ k
theorem ChainM.skip {M : List Nat} {i : Nat} {o : Oper} {l : List Oper} {env out : Env} {d j tj : Nat} {b : Bool} (hg : o.guard = some (j, !b)) (hj : (ops[j]?).bind (·.dst) = some tj) (hb : look tj env = some (.bool b)) (hd : o.dst = some d) (hn : M.contains i = false) (k : ChainM P w0 hp ops M N (i + 1) l ((d, undef) :: env) out) : ChainM P w0 hp ops M N i (o :: l) env ((d, undef) :: out) := .part hn ⟨hd, .inr (.inr ⟨_, _, _, hg, hj, hb, rfl⟩)⟩ k
theorem ChainM.parts {M : List Nat} {n : Nat} {l : List Oper} {env out : Env} (h : ChainM P w0 hp ops M N n l env out) : out.length = l.length ∧ ∀ i o, l[i]? = some o → (M.contains (n + i) = true ∧ out[i]? = some (N.n, undef)) ∨ ∃ d v, M.contains (n + i) = false ∧ out[i]? = some (d, v) ∧ Part P w0 hp ops o ((out.take i).reverse ++ env) d v := by
  induction h with
  | nil n env => exact ⟨rfl, fun i o h => by simp at h⟩
  | part hn hq k ih =>
    refine ⟨by simp [ih.1], fun i o h => ?_⟩
    cases i with
    | zero => cases h; exact .inr ⟨_, _, hn, rfl, hq⟩
    | succ i =>
      rcases ih.2 i o (by simpa using h) with ⟨h1, h2⟩ | ⟨d, v, h0, h1, h2⟩
      · exact .inl ⟨by rwa [Nat.add_assoc, Nat.add_comm 1 i] at h1, by simpa using h2⟩
      · exact .inr ⟨d, v, by rwa [Nat.add_assoc, Nat.add_comm 1 i] at h0, by simpa using h1, by simpa using h2⟩
  | gap hm k ih =>
    refine ⟨by simp [ih.1], fun i o h => ?_⟩
    cases i with
    | zero => cases h; exact .inl ⟨hm, rfl⟩
    | succ i =>
      rcases ih.2 i o (by simpa using h) with ⟨h1, h2⟩ | ⟨d, v, h0, h1, h2⟩
      · exact .inl ⟨by rwa [Nat.add_assoc, Nat.add_comm 1 i] at h1, by simpa using h2⟩
      · exact .inr ⟨d, v, by rwa [Nat.add_assoc, Nat.add_comm 1 i] at h0, by simpa using h1, by simpa using h2⟩
def okDrawE (ol : List Oper) (m N : Nat) (M : List Nat) : Bool :=
  let ms := masksOf ol []
  ((List.range ol.length).all fun i => ((ol[i]?).map fun o => o.after.all fun e => !Region.binds .any e || decide (e.on < i)).getD true) &&
  ((List.range m).all fun i => match ol[i]? with
    | some o => selB o && ((match o.dst with | some d => decide (d < N) | none => M.contains i) && (!(o.looksAt ol.toArray).contains N && ((!M.contains i || o.guard.isNone) &&
      (List.range m).all fun j => match ol[j]? with
        | some o' => (match o'.dst with
          | some t => (decide (i = j) || o.dst != some t) && (!(o.looksAt ol.toArray).contains t || (!M.contains j && ((decide (j < i) && (ms.getD i 0).testBit j) || (decide (i < j) && (ms.getD j 0).testBit i))))
          | none => true)
        | none => false)))
    | none => false) &&
  (((List.range (ol.length - m)).all fun k => (List.range (m + k)).all fun j => (ms.getD (m + k) 0).testBit j) && (decide M.Nodup && M.all (fun p => decide (p < m))))
structure DrawE (ol : List Oper) (m N : Nat) (M : List Nat) : Prop where
  on : (List.range ol.toArray.size).all (fun i => ((ol.toArray[i]?).map fun o => o.after.all fun e => !Region.binds .any e || decide (e.on < i)).getD true) = true
  sel : ∀ i o, i < m → ol[i]? = some o → ∀ cs b, o.op ≠ .select cs b
  dst : ∀ i o, i < m → ol[i]? = some o → i ∉ M → ∃ d, o.dst = some d
  lt : ∀ i o d, i < m → ol[i]? = some o → o.dst = some d → d < N
  noN : ∀ i o, i < m → ol[i]? = some o → N ∉ o.looksAt ol.toArray
  guard : ∀ i o, i < m → ol[i]? = some o → i ∈ M → o.guard = none
  uniq : ∀ i j o o' d, i < m → j < m → ol[i]? = some o → ol[j]? = some o' → o.dst = some d → o'.dst = some d → i = j
  reads : ∀ i j o o' t, i < m → j < m → ol[i]? = some o → ol[j]? = some o' → o'.dst = some t → t ∈ o.looksAt ol.toArray → j ∉ M ∧ ((j < i ∧ ((masksOf ol []).getD i 0).testBit j = true) ∨ (i < j ∧ ((masksOf ol []).getD j 0).testBit i = true))
  late : ∀ i j, m ≤ i → i < ol.length → j < i → ((masksOf ol []).getD i 0).testBit j = true
  m_le : ∀ i, i < m → ∃ o, ol[i]? = some o
  nodup : M.Nodup
  ltm : ∀ p ∈ M, p < m
theorem okDrawE_spec {ol : List Oper} {m N : Nat} {M : List Nat} (h : okDrawE ol m N M = true) : DrawE ol m N M := by
  simp only [okDrawE, Bool.and_eq_true, decide_eq_true_eq] at h
  obtain ⟨⟨h1, h2⟩, h3, h4, h5⟩ := h
  have key : ∀ i, i < m → ∃ o, ol[i]? = some o ∧ selB o = true ∧ ((∃ d, o.dst = some d ∧ d < N) ∨ (o.dst = none ∧ i ∈ M)) ∧ N ∉ o.looksAt ol.toArray ∧ (i ∈ M → o.guard = none) ∧
      ∀ j o' t, j < m → ol[j]? = some o' → o'.dst = some t → (i = j ∨ o.dst ≠ some t) ∧ (t ∈ o.looksAt ol.toArray → j ∉ M ∧ ((j < i ∧ ((masksOf ol []).getD i 0).testBit j = true) ∨ (i < j ∧ ((masksOf ol []).getD j 0).testBit i = true))) := by
    intro i hi
    have := List.all_eq_true.1 h2 i (List.mem_range.2 hi)
    split at this
    · rename_i o ho
      simp only [Bool.and_eq_true] at this
      obtain ⟨hs, hd, hn, hg, hj⟩ := this
      refine ⟨o, ho, hs, ?_, ?_, ?_, ?_⟩
      · split at hd
        · rename_i d hd'
          exact .inl ⟨d, hd', by simpa using hd⟩
        · rename_i hd'
          exact .inr ⟨hd', List.contains_iff_mem.1 hd⟩
      · intro hm
        rw [List.contains_iff_mem.2 hm] at hn
        cases hn
      · intro hm
        rw [List.contains_iff_mem.2 hm] at hg
        simpa using hg
      · intro j o' t hjm ho' hd'
        have := List.all_eq_true.1 hj j (List.mem_range.2 hjm)
        rw [ho'] at this
        simp only [hd'] at this
        simp only [Bool.and_eq_true, Bool.or_eq_true, decide_eq_true_eq, bne_iff_ne, Bool.not_eq_true'] at this
        refine ⟨this.1, fun hl => ?_⟩
        rcases this.2 with h6 | ⟨h6, h7⟩
        · rw [List.contains_iff_mem.2 hl] at h6; cases h6
        · exact ⟨(fun hm => by rw [List.contains_iff_mem.2 hm] at h6; cases h6), h7⟩
    · cases this
  have keyo : ∀ i o, i < m → ol[i]? = some o → selB o = true ∧ ((∃ d, o.dst = some d ∧ d < N) ∨ (o.dst = none ∧ i ∈ M)) ∧ N ∉ o.looksAt ol.toArray ∧ (i ∈ M → o.guard = none) ∧
      ∀ j o' t, j < m → ol[j]? = some o' → o'.dst = some t → (i = j ∨ o.dst ≠ some t) ∧ (t ∈ o.looksAt ol.toArray → j ∉ M ∧ ((j < i ∧ ((masksOf ol []).getD i 0).testBit j = true) ∨ (i < j ∧ ((masksOf ol []).getD j 0).testBit i = true))) := by
    intro i o hi ho
    obtain ⟨o2, ho2, h⟩ := key i hi
    rw [ho] at ho2; cases ho2
    exact h
  refine ⟨by simpa using h1, ?_, ?_, ?_, ?_, ?_, ?_, ?_, ?_, ?_, h4, ?_⟩
  · intro i o hi ho cs b e
    have := (keyo i o hi ho).1
    simp [selB, e] at this
  · intro i o hi ho hm
    rcases (keyo i o hi ho).2.1 with ⟨d, hd, _⟩ | ⟨_, h⟩
    · exact ⟨d, hd⟩
    · exact absurd h hm
  · intro i o d hi ho hd
    rcases (keyo i o hi ho).2.1 with ⟨d', hd', hl⟩ | ⟨h, _⟩
    · rw [hd] at hd'; cases hd'; exact hl
    · rw [hd] at h; cases h
  · exact fun i o hi ho => (keyo i o hi ho).2.2.1
  · exact fun i o hi ho => (keyo i o hi ho).2.2.2.1
  · intro i j o o' d hi hj ho ho' hd hd'
    rcases ((keyo i o hi ho).2.2.2.2 j o' d hj ho' hd').1 with h | h
    · exact h
    · exact absurd hd h
  · exact fun i j o o' t hi hj ho ho' hd hl => ((keyo i o hi ho).2.2.2.2 j o' t hj ho' hd).2 hl
  · intro i j hi hl hj
    have := List.all_eq_true.1 h3 (i - m) (List.mem_range.2 (by omega))
    have := List.all_eq_true.1 this j (List.mem_range.2 (by omega))
    rwa [show m + (i - m) = i by omega] at this
  · intro i hi
    obtain ⟨o, ho, _⟩ := key i hi
    exact ⟨o, ho⟩
  · exact fun p hp => by simpa using List.all_eq_true.1 h5 p hp
theorem permOf : ∀ {M S : List Nat}, M.Nodup → S.Nodup → (∀ p, p ∈ S ↔ p ∈ M) → S.Perm M
  | [], S, _, _, h => by
    have : S = [] := List.eq_nil_iff_forall_not_mem.2 (fun p hp => by have := (h p).1 hp; cases this)
    rw [this]
  | p :: M, S, hM, hS, h => by
    have hpS : p ∈ S := (h p).2 List.mem_cons_self
    refine (List.perm_cons_erase hpS).trans (List.Perm.cons p (permOf (List.nodup_cons.1 hM).2 (hS.erase p) (fun q => ?_)))
    rw [hS.mem_erase_iff, h q, List.mem_cons]
    constructor
    · rintro ⟨h1, h2 | h2⟩
      · exact absurd h2 h1
      · exact h2
    · intro h2
      exact ⟨fun e => (List.nodup_cons.1 hM).1 (e ▸ h2), .inr h2⟩
theorem exX {ι : Type} [Nonempty ι] : ∀ (seq : List (Nat × ι)), (seq.map (·.1)).Nodup → ∃ X : Nat → ι, ∀ s ∈ seq, X s.1 = s.2
  | [], _ => ⟨fun _ => Classical.choice ‹_›, fun s h => by cases h⟩
  | (p, x) :: seq, h => by
    obtain ⟨X, hX⟩ := exX seq (List.nodup_cons.1 h).2
    refine ⟨fun q => if q = p then x else X q, fun s hs => ?_⟩
    rcases List.mem_cons.1 hs with rfl | hs
    · simp
    · have : s.1 ≠ p := fun e => (List.nodup_cons.1 h).1 (e ▸ List.mem_map.2 ⟨s, hs, rfl⟩)
      simp only [if_neg this]
      exact hX s hs
theorem flat_congr {α β : Type} {f g : α → List β} : ∀ {l : List α}, (∀ x ∈ l, f x = g x) → l.flatMap f = l.flatMap g
  | [], _ => rfl
  | x :: l, h => by rw [List.flatMap_cons, List.flatMap_cons, h x List.mem_cons_self, flat_congr (fun y hy => h y (List.mem_cons_of_mem _ hy))]
theorem look_congr {t : Nat} : ∀ {A B B' : Env}, look t B = look t B' → look t (A ++ B) = look t (A ++ B')
  | [], _, _, h => h
  | (u, x) :: A, B, B', h => by
    rw [List.cons_append, List.cons_append, look_cons, look_cons, look_congr h]
def WA (P : Program) (ol : List Oper) (Q : Exit → Act → World → Prop) (w0 : World) (N : Fr) (env : Env) (hp : List Item) : Prop := ∀ a w, Holds w0 N env hp a w → wpAny P .any ol.toArray Q ol.toArray.size (Array.replicate ol.toArray.size false) a { w with drawn := w.drawn + 1 }
theorem wc_any {id : Nat} {ol : List Oper} (hm : P.follows .mixedOrders = true) (h : WA P ol Q w0 N env hp) : WC P (.region id ol.toArray true) Q w0 N env hp := fun a w hh => wp_region_any hm (h a w hh)
theorem any_drawE {ι : Type} [Nonempty ι] {ol : List Oper} {out : Env} {hp0 : List Item} (m : Nat) (M : List Nat) (dm : Nat → Option Nat) (v : Nat → ι → Value) (X : Nat → List Item) (X' : Nat → ι → List Item) (hok : okDrawE ol m N M = true) (hc : ChainM P w0 hp ol.toArray M N 0 (ol.take m) env out)
    (hM : ∀ p ∈ M, ∃ o, ol[p]? = some o ∧ o.dst = dm p ∧ OpE P o ((out.take p).reverse ++ env) w0 hp (X p) (v p) (X' p)) (hX : hp0 = M.flatMap X ++ hp)
    (k : ∀ x : Nat → ι, WL P ol.toArray Q w0 N (ol.drop m) (M.filterMap (fun p => (dm p).map fun d => (d, v p (x p))) ++ (out.reverse ++ env)) (M.flatMap (fun p => X' p (x p)) ++ hp)) :
    WA P ol Q w0 N env hp0 := by
  intro a w hh
  subst hX
  have D := okDrawE_spec hok
  obtain ⟨hlen, hparts⟩ := hc.parts
  have hml : m ≤ ol.length := by
    rcases Nat.eq_zero_or_pos m with h | h
    · omega
    · obtain ⟨o, ho⟩ := D.m_le (m - 1) (by omega)
      have := (List.getElem?_eq_some_iff.1 ho).1
      omega
  have hlen' : out.length = m := by rw [hlen, List.length_take]; omega
  have hget : ∀ i o, i < m → ol[i]? = some o → (i ∈ M ∧ out[i]? = some (N.n, undef)) ∨ ∃ d v, i ∉ M ∧ out[i]? = some (d, v) ∧ Part P w0 hp ol.toArray o ((out.take i).reverse ++ env) d v := fun i o hi ho => by
    rcases hparts i o (by rw [List.getElem?_take, if_pos hi]; exact ho) with ⟨h1, h2⟩ | ⟨d, v, h0, h1, h2⟩
    · rw [Nat.zero_add] at h1; exact .inl ⟨List.contains_iff_mem.1 h1, h2⟩
    · rw [Nat.zero_add] at h0; exact .inr ⟨d, v, (fun h => by rw [List.contains_iff_mem.2 h] at h0; cases h0), h1, h2⟩
  have hdmM : ∀ p ∈ M, p < m ∧ (∃ o, ol[p]? = some o ∧ o.guard = none ∧ o.dst = dm p) ∧ ∀ d, dm p = some d → d < N.n ∧ ∀ i o', i < m → ol[i]? = some o' → d ∉ o'.looksAt ol.toArray := by
    intro p hpM
    have h1 := D.ltm p hpM
    obtain ⟨o, ho, hd, _⟩ := hM p hpM
    refine ⟨h1, ⟨o, ho, D.guard p o h1 ho hpM, hd⟩, fun d hd2 => ⟨D.lt p o d h1 ho (hd.trans hd2), fun i o' hi ho' hl => ?_⟩⟩
    exact (D.reads i p o' o d hi h1 ho' ho (hd.trans hd2) hl).1 hpM
  have hreal : ∀ (i d : Nat) (v : Value), out[i]? = some (d, v) → d ≠ N → i ∉ M ∧ ∃ o, i < m ∧ ol[i]? = some o ∧ o.dst = some d := by
    intro i d v h hdN
    have hi : i < m := by have := (List.getElem?_eq_some_iff.1 h).1; omega
    obtain ⟨o, ho⟩ := D.m_le i hi
    rcases hget i o hi ho with ⟨_, h2⟩ | ⟨d', v', h0, h1, h2⟩
    · rw [h] at h2; cases h2; exact absurd rfl hdN
    · rw [h] at h1; cases h1
      exact ⟨h0, o, hi, ho, h2.1⟩
  have huniq : ∀ (i j d : Nat) (v v' : Value), d ≠ N → out[i]? = some (d, v) → out[j]? = some (d, v') → i = j := by
    intro i j d v v' hdN h1 h2
    obtain ⟨_, o, hi, ho, hd⟩ := hreal i d v h1 hdN
    obtain ⟨_, o', hj, ho', hd'⟩ := hreal j d v' h2 hdN
    exact D.uniq i j o o' d hi hj ho ho' hd hd'
  have hundef : ∀ (i : Nat) (v : Value), out[i]? = some (N.n, v) → v = undef := by
    intro i v h
    have hi : i < m := by have := (List.getElem?_eq_some_iff.1 h).1; omega
    obtain ⟨o, ho⟩ := D.m_le i hi
    rcases hget i o hi ho with ⟨_, h2⟩ | ⟨d', v', h0, h1, h2⟩
    · rw [h] at h2; cases h2; rfl
    · rw [h] at h1; cases h1
      exact absurd (D.lt i o _ hi ho h2.1) (Nat.lt_irrefl _)
  have hval : ∀ (i j d : Nat) (v v' : Value), out[i]? = some (d, v) → out[j]? = some (d, v') → v = v' := by
    intro i j d v v' h1 h2
    by_cases hdN : d = N
    · subst hdN; rw [hundef i v h1, hundef j v' h2]
    · have := huniq i j d v v' hdN h1 h2
      subst this
      rw [h1] at h2; cases h2; rfl
  have inCome : ∀ (l : Array Bool) (t j : Nat) (v' : Value), l.getD j false = true → out[j]? = some (t, v') → look t (come out l env) = some v' := fun l t j v' hl hj => look_in (come_mem hl hj) (fun x hx => by
    obtain ⟨q, _, hq⟩ := mem_come hx
    exact hval q j t x v' hq hj)
  have offCome : ∀ (l : Array Bool) (t : Nat), (∀ j v', l.getD j false = true → out[j]? ≠ some (t, v')) → look t (come out l env) = look t env := fun l t h => look_app (fun p hp e => by
    obtain ⟨q, hq1, hq2⟩ := mem_come hp
    obtain ⟨pt, pv⟩ := p
    simp only at e
    subst e
    exact h q pv hq1 hq2)
  have hgood := masks_good ol ol [] rfl (fun i j h => by simp at h)
  let Dn (l : Array Bool) : Prop := ∀ i, (l.getD i false = true) → Afters ol (fun i => l.getD i false = true) i
  have agree : ∀ (l : Array Bool) (i : Nat) (o : Oper) (t : Nat), Dn l → i < m → ol[i]? = some o → l.getD i false = false → Afters ol (fun i => l.getD i false = true) i → t ∈ o.looksAt ol.toArray → look t (come out l env) = look t ((out.take i).reverse ++ env) := by
    intro l i o t hdn hi ho hni hai ht
    have htN : t ≠ N.n := fun e => D.noN i o hi ho (e ▸ ht)
    have anc : ∀ j, ((masksOf ol []).getD i 0).testBit j = true → l.getD j false = true := fun j hj => hgood i j hj _ (fun q hq => hdn q hq) hai
    by_cases hex : ∃ (j : Nat) (v' : Value), out[j]? = some (t, v')
    · obtain ⟨j, v', hj⟩ := hex
      obtain ⟨_, oj, hjm, hoj, hdj⟩ := hreal j t v' hj htN
      rcases (D.reads i j o oj t hi hjm ho hoj hdj ht).2 with ⟨h3, h4⟩ | ⟨h3, h4⟩
      · have e2 : look t ((out.take i).reverse ++ env) = some v' := look_in (by
          rw [List.mem_reverse]
          exact List.mem_of_getElem? (i := j) (by rw [List.getElem?_take, if_pos h3]; exact hj)) (fun x hx => by
          rw [List.mem_reverse] at hx
          obtain ⟨q, hq1, hq2⟩ := List.mem_iff_getElem.1 (List.mem_of_mem_take hx)
          have hq : out[q]? = some (t, x) := by rw [List.getElem?_eq_getElem hq1, hq2]
          exact hval q j t x v' hq hj)
        rw [inCome l t j v' (anc j h4) hj, e2]
      · have hnl : ¬ l.getD j false = true := by
          intro hlj
          have := hgood j i h4 _ (fun q hq => hdn q hq) (hdn j hlj)
          rw [hni] at this
          cases this
        have e1 := offCome l t (fun q x hq1 hq2 => by
          have := huniq q j t x v' htN hq2 hj
          subst this
          exact hnl hq1)
        have e2 : look t ((out.take i).reverse ++ env) = look t env := look_app (fun p hp e => by
          rw [List.mem_reverse] at hp
          obtain ⟨q, hq1, hq2⟩ := List.mem_iff_getElem.1 hp
          obtain ⟨pt, pv⟩ := p
          simp only at e
          subst e
          have hq3 : q < i := by simp at hq1; omega
          have hq : out[q]? = some (pt, pv) := by
            have : (out.take i)[q]? = some (pt, pv) := by rw [List.getElem?_eq_getElem hq1, hq2]
            rw [List.getElem?_take, if_pos hq3] at this
            exact this
          have := huniq q j _ pv v' htN hq hj
          omega)
        rw [e1, e2]
    · have e2 : look t ((out.take i).reverse ++ env) = look t env := look_app (fun p hp e => by
        rw [List.mem_reverse] at hp
        obtain ⟨pt, pv⟩ := p
        simp only at e
        subst e
        obtain ⟨q, hq1, hq2⟩ := List.mem_iff_getElem.1 (List.mem_of_mem_take hp)
        exact hex ⟨q, pv, by rw [List.getElem?_eq_getElem hq1, hq2]⟩)
      rw [offCome l t (fun j v' _ h => hex ⟨j, v', h⟩), e2]
  let SE (seq : List (Nat × ι)) : Env := seq.filterMap (fun s => (dm s.1).map fun d => (d, v s.1 s.2))
  have memSE : ∀ (seq : List (Nat × ι)) (t : Nat) (y : Value), (t, y) ∈ SE seq → ∃ s ∈ seq, dm s.1 = some t ∧ y = v s.1 s.2 := by
    intro seq t y h
    obtain ⟨s, hs, he⟩ := List.mem_filterMap.1 h
    cases hd : dm s.1 with
    | none => rw [hd] at he; cases he
    | some d =>
      rw [hd] at he
      cases he
      exact ⟨s, hs, hd, rfl⟩
  have sE : ∀ (seq : List (Nat × ι)) (t : Nat) (B : Env), (∀ s ∈ seq, s.1 ∈ M) → (∀ p ∈ M, dm p ≠ some t) → look t (SE seq ++ B) = look t B := fun seq t B h1 h2 => look_app (fun p hp e => by
    obtain ⟨pt, pv⟩ := p
    obtain ⟨s, hs, hd, _⟩ := memSE seq pt pv hp
    exact h2 s.1 (h1 s hs) (hd.trans (congrArg some e)))
  let St (l : Array Bool) (a : Act) (w : World) : Prop := ∃ seq : List (Nat × ι), (seq.map (·.1)).Nodup ∧ (∀ p, p ∈ seq.map (·.1) ↔ p ∈ M ∧ l.getD p false = true) ∧ Holds w0 N (SE seq ++ come out l env) (seq.flatMap (fun s => X' s.1 s.2) ++ ((M.filter fun p => !l.getD p false).flatMap X ++ hp)) a w
  have fin : ∀ (l : Array Bool) (a : Act) (w : World), (∀ j, j < m → l.getD j false = true) → St l a w → wpList P ol.toArray Q (ol.drop m) a w := by
    rintro l a w hall ⟨seq, hnd, hmem, hH⟩
    obtain ⟨xf, hxf⟩ := exX seq hnd
    have hmem' : ∀ p, p ∈ seq.map (·.1) ↔ p ∈ M := fun p => ⟨fun h => ((hmem p).1 h).1, fun h => (hmem p).2 ⟨h, hall p (hdmM p h).1⟩⟩
    have hsM : ∀ s ∈ seq, s.1 ∈ M := fun s hs => (hmem' s.1).1 (List.mem_map.2 ⟨s, hs, rfl⟩)
    have hdinj : ∀ p ∈ M, ∀ q ∈ M, ∀ d, dm p = some d → dm q = some d → p = q := fun p hp q hq d e e' => by
      obtain ⟨h1, ⟨o, ho, _, hd⟩, _⟩ := hdmM p hp
      obtain ⟨h2, ⟨o', ho', _, hd'⟩, _⟩ := hdmM q hq
      exact D.uniq p q o o' d h1 h2 ho ho' (hd.trans e) (hd'.trans e')
    have hnone : (M.filter fun p => !l.getD p false) = [] := List.filter_eq_nil_iff.2 (fun p hp => by rw [hall p (hdmM p hp).1]; simp)
    have heH : seq.flatMap (fun s => X' s.1 s.2) = (seq.map (·.1)).flatMap (fun p => X' p (xf p)) := by
      rw [List.flatMap_map]
      exact flat_congr (fun s hs => by simp [hxf s hs])
    rw [hnone] at hH
    refine k xf a w ⟨hH.size, hH.defers, ?_, hH.heap.perm ?_⟩
    · intro t x hx
      refine hH.env t x ?_
      rw [← hx]
      by_cases hex : ∃ p ∈ M, dm p = some t
      · obtain ⟨p, hpM, hpd⟩ := hex
        obtain ⟨s, hs, hsp⟩ := List.mem_map.1 ((hmem' p).2 hpM)
        subst hsp
        have e1 : look t (SE seq ++ come out l env) = some (v s.1 s.2) := look_in (List.mem_filterMap.2 ⟨s, hs, by rw [hpd]; rfl⟩) (fun x hx => by
          obtain ⟨s', hs', he, hv'⟩ := memSE seq t x hx
          have := hdinj _ (hsM s' hs') _ hpM t he hpd
          rw [hv', ← hxf s' hs', ← hxf s hs, this])
        have e2 : look t (M.filterMap (fun p => (dm p).map fun d => (d, v p (xf p))) ++ (out.reverse ++ env)) = some (v s.1 s.2) := look_in (List.mem_filterMap.2 ⟨s.1, hpM, by rw [hpd, ← hxf s hs]; rfl⟩) (fun x hx => by
          obtain ⟨q, hq, he⟩ := List.mem_filterMap.1 hx
          cases hd : dm q with
          | none => rw [hd] at he; cases he
          | some d =>
            rw [hd] at he
            cases he
            have := hdinj _ hq _ hpM t hd hpd
            rw [this, hxf s hs])
        rw [e1, e2]
      · have hno : ∀ p ∈ M, dm p ≠ some t := fun p hp e => hex ⟨p, hp, e⟩
        rw [sE seq t _ hsM hno]
        have e3 : look t (M.filterMap (fun p => (dm p).map fun d => (d, v p (xf p))) ++ (out.reverse ++ env)) = look t (out.reverse ++ env) := look_app (fun p hp e => by
          obtain ⟨q, hq, he⟩ := List.mem_filterMap.1 hp
          cases hd : dm q with
          | none => rw [hd] at he; cases he
          | some d =>
            rw [hd] at he
            cases he
            exact hno q hq (hd.trans (congrArg some e)))
        rw [e3]
        by_cases hex2 : ∃ (j : Nat) (v' : Value), out[j]? = some (t, v')
        · obtain ⟨j, v', hj⟩ := hex2
          have hjm : j < m := by have := (List.getElem?_eq_some_iff.1 hj).1; omega
          have e2 : look t (out.reverse ++ env) = some v' := look_in (List.mem_reverse.2 (List.mem_of_getElem? hj)) (fun x hx => by
            rw [List.mem_reverse] at hx
            obtain ⟨q, hq1, hq2⟩ := List.mem_iff_getElem.1 hx
            have hq : out[q]? = some (t, x) := by rw [List.getElem?_eq_getElem hq1, hq2]
            exact hval q j t x v' hq hj)
          rw [inCome l t j v' (hall j hjm) hj, e2]
        · have e2 : look t (out.reverse ++ env) = look t env := look_app (fun p hp e => by
            rw [List.mem_reverse] at hp
            obtain ⟨pt, pv⟩ := p
            simp only at e
            subst e
            obtain ⟨q, hq1, hq2⟩ := List.mem_iff_getElem.1 hp
            exact hex2 ⟨q, pv, by rw [List.getElem?_eq_getElem hq1, hq2]⟩)
          rw [offCome l t (fun j v' _ h => hex2 ⟨j, v', h⟩), e2]
    · rw [heH]
      exact List.Perm.append_right hp ((permOf D.nodup hnd hmem').flatMap_right _)
  refine wpAny_inv (fun l a w => Dn l ∧ ((∀ i, m ≤ i → l.getD i false = false) ∧ St l a w ∨ ∃ k, m < k ∧ k ≤ ol.length ∧ (∀ i, l.getD i false = true ↔ i < k) ∧ wpList P ol.toArray Q (ol.drop k) a w)) ?_ ?_ (ends_of D.on) _ _ _ _ (by simp) ?_ ?_
  · rintro l a w i ⟨hdn, hI⟩ hls hi hni hr
    have hni' : l.getD i false = false := by
      have hil : i < l.size := by rw [hls]; exact hi
      have : l.getD i true = l.getD i false := by simp [Array.getD_eq_getD_getElem?, hil]
      rw [← this, hni]
    have hi' : i < ol.length := by simpa using hi
    have ho : ol[i]? = some ol[i] := List.getElem?_eq_getElem hi'
    have hoa : ol.toArray[i]? = some ol[i] := by simp
    have hset : ∀ j, (l.setIfInBounds i true).getD j false = true ↔ j = i ∨ l.getD j false = true := by
      intro j
      by_cases e : j = i
      · subst e
        rw [getD_set_self l j false (by rw [hls]; exact hi)]
        simp
      · rw [getD_set_other l i j false (Ne.symm e)]
        simp [e]
    have hai : Afters ol (fun i => l.getD i false = true) i := fun o ho' e he hb => by
      rw [ho] at ho'; cases ho'
      exact hr _ hoa e he hb
    have hdn' : Dn (l.setIfInBounds i true) := by
      intro j hj o hoj e he hb
      rcases (hset j).1 hj with rfl | hj
      · exact (hset _).2 (.inr (hai o hoj e he hb))
      · exact (hset _).2 (.inr (hdn j hj o hoj e he hb))
    have anc : ∀ j, ((masksOf ol []).getD i 0).testBit j = true → l.getD j false = true := fun j hj => hgood i j hj _ (fun q hq => hdn q hq) hai
    have hlate' : (∀ j, m ≤ j → l.getD j false = false) → i < m → ∀ j, m ≤ j → (l.setIfInBounds i true).getD j false = false := by
      intro hlate him j hj
      cases hv : (l.setIfInBounds i true).getD j false with
      | false => rfl
      | true =>
        rcases (hset j).1 hv with rfl | h
        · omega
        · rw [hlate j hj] at h; cases h
    have comeSet : ∀ (t d : Nat) (x : Value), out[i]? = some (d, x) → t ≠ d → look t (come out (l.setIfInBounds i true) env) = look t (come out l env) := by
      intro t d x h1 hne
      by_cases hex : ∃ (j : Nat) (v' : Value), out[j]? = some (t, v') ∧ l.getD j false = true
      · obtain ⟨j, v', hj, hlj⟩ := hex
        rw [inCome _ t j v' ((hset j).2 (.inr hlj)) hj, inCome l t j v' hlj hj]
      · rw [offCome _ t (fun j v' hl h => by
          rcases (hset j).1 hl with rfl | hl
          · rw [h1] at h; cases h; exact hne rfl
          · exact hex ⟨j, v', h, hl⟩), offCome l t (fun j v' hl h => hex ⟨j, v', h, hl⟩)]
    rcases hI with ⟨hlate, seq, hnd, hmem, hH⟩ | ⟨k', hk, hkl, hl, hwp⟩
    · have hsM : ∀ s ∈ seq, s.1 ∈ M := fun s hs => ((hmem s.1).1 (List.mem_map.2 ⟨s, hs, rfl⟩)).1
      by_cases him : i < m
      · have hag : ∀ t ∈ (ol[i]).looksAt ol.toArray, look t (SE seq ++ come out l env) = look t ((out.take i).reverse ++ env) := by
          intro t ht
          rw [sE seq t _ hsM (fun p hpM e => ((hdmM p hpM).2.2 t e).2 i _ him ho ht)]
          exact agree l i _ t hdn him ho hni' hai ht
        rcases hget i _ him ho with ⟨hiM, h1⟩ | ⟨d, x, hiM, h1, h2⟩
        · obtain ⟨_, ⟨o2, ho2, hg2, hd2⟩, hdd⟩ := hdmM i hiM
          obtain ⟨o3, ho3, _, hop⟩ := hM i hiM
          rw [ho] at ho2 ho3; cases ho2; cases ho3
          unfold Go.wpOp
          simp only [hoa]
          rw [if_pos (by simp [Region.wanted, hg2])]
          have hperm : (M.filter fun p => !l.getD p false).Perm (i :: M.filter fun p => !(l.setIfInBounds i true).getD p false) := by
            refine permOf ?_ (D.nodup.filter _) (fun p => ?_)
            · rw [List.nodup_cons]
              refine ⟨fun h => ?_, D.nodup.filter _⟩
              have := (List.mem_filter.1 h).2
              rw [(hset i).2 (.inl rfl)] at this
              cases this
            · rw [List.mem_filter, List.mem_cons, List.mem_filter]
              by_cases hpi : p = i
              · subst hpi
                simp [hiM, hni']
              · have : (l.setIfInBounds i true).getD p false = l.getD p false := getD_set_other l i p false (fun e => hpi e.symm)
                rw [this]
                simp [hpi]
          have hH2 : HeapOK w0 (X i ++ ((seq.flatMap (fun s => X' s.1 s.2) ++ (M.filter fun p => !(l.setIfInBounds i true).getD p false).flatMap X) ++ hp)) w := by
            refine hH.heap.perm ?_
            rw [← List.append_assoc, ← List.append_assoc]
            refine List.Perm.append_right hp ?_
            refine (List.Perm.append_left _ (hperm.flatMap_right X)).trans ?_
            rw [List.flatMap_cons, ← List.append_assoc, ← List.append_assoc]
            exact List.Perm.append_right _ List.perm_append_comm
          refine .inl ((hop.any (D.sel i _ him ho) (fun t ht => hag t (List.mem_append_left _ (List.mem_filterMap.2 ⟨.tmp t, by simpa using ht, rfl⟩)))).wp hH.env hH2 (fun x w' hh' => ?_))
          refine ⟨hdn', .inl ⟨hlate' hlate him, (i, x) :: seq, ?_, ?_, ?_⟩⟩
          · rw [List.map_cons, List.nodup_cons]
            refine ⟨fun h => ?_, hnd⟩
            have := ((hmem i).1 h).2
            rw [hni'] at this; cases this
          · intro p
            rw [List.map_cons, List.mem_cons, hmem p, hset p]
            constructor
            · rintro (rfl | ⟨h3, h4⟩)
              · exact ⟨hiM, .inl rfl⟩
              · exact ⟨h3, .inr h4⟩
            · rintro ⟨h3, rfl | h4⟩
              · exact .inl rfl
              · exact .inr ⟨h3, h4⟩
          · rw [hd2]
            have hh2 : HeapOK w0 (((i, x) :: seq).flatMap (fun s => X' s.1 s.2) ++ ((M.filter fun p => !(l.setIfInBounds i true).getD p false).flatMap X ++ hp)) w' := by
              rw [List.flatMap_cons]
              simpa only [List.append_assoc] using hh'
            have hseq : ∀ s ∈ (i, x) :: seq, s.1 ∈ M := fun s hs => by
              rcases List.mem_cons.1 hs with rfl | hs
              · exact hiM
              · exact hsM s hs
            have hN : look N.n (SE ((i, x) :: seq) ++ come out (l.setIfInBounds i true) env) = some undef := by
              rw [sE ((i, x) :: seq) N.n _ hseq (fun p hpM e => absurd ((hdmM p hpM).2.2 _ e).1 (Nat.lt_irrefl _))]
              exact inCome _ N.n i undef ((hset i).2 (.inl rfl)) h1
            have hup : ∀ (b : Act), b.tmps.size = N.n → EnvOK (SE ((i, x) :: seq) ++ come out l env) b → EnvOK (SE ((i, x) :: seq) ++ come out (l.setIfInBounds i true) env) b := by
              intro b hb hE t y hy
              by_cases htN : t = N.n
              · subst htN
                rw [hN] at hy
                cases hy
                simp [Array.getD_eq_getD_getElem?, ← hb]
              · refine hE t y ?_
                rw [← hy]
                exact look_congr (comeSet t N.n undef h1 htN).symm
            cases hd : dm i with
            | none =>
              refine ⟨hH.size, hH.defers, hup _ hH.size ?_, hh2⟩
              have : SE ((i, x) :: seq) = SE seq := by
                show List.filterMap _ _ = _
                rw [List.filterMap_cons, hd]
                rfl
              rw [this]
              exact hH.env
            | some d =>
              have hp1 := hH.put d (v i x) (hdd d hd).1 hh2
              refine ⟨hp1.size, hp1.defers, hup _ hp1.size ?_, hh2⟩
              have : SE ((i, x) :: seq) = (d, v i x) :: SE seq := by
                show List.filterMap _ _ = _
                rw [List.filterMap_cons, hd]
                rfl
              rw [this]
              exact hp1.env
        · refine h2.wpOp hoa (D.sel i _ him ho) hag hH.env (hH.heap.sub ((List.sublist_append_right _ _).trans (List.sublist_append_right _ _))) ?_
          intro w' hb
          refine ⟨hdn', .inl ⟨hlate' hlate him, seq, hnd, ?_, ?_⟩⟩
          · intro p
            rw [hmem p, hset p]
            constructor
            · rintro ⟨h3, h4⟩; exact ⟨h3, .inr h4⟩
            · rintro ⟨h3, rfl | h4⟩
              · exact absurd h3 hiM
              · exact ⟨h3, h4⟩
          · have hfil : (M.filter fun p => !(l.setIfInBounds i true).getD p false) = M.filter fun p => !l.getD p false := List.filter_congr (fun p hp => by
              have : p ≠ i := fun e => hiM (e ▸ hp)
              rw [getD_set_other l i p false (fun e => this e.symm)])
            rw [hfil]
            have hdN := D.lt i _ d him ho h2.1
            obtain ⟨d', hdd⟩ : ∃ d', d' = d := ⟨d, rfl⟩
            subst hdd
            have hp1 := hH.put d' x hdN (hH.heap.below hb)
            refine ⟨hp1.size, hp1.defers, ?_, hp1.heap⟩
            intro t y hy
            have hnoM : ∀ p ∈ M, dm p ≠ some d' := fun p hpM e => by
              obtain ⟨q1, ⟨o2, ho2, _, hd2⟩, _⟩ := hdmM p hpM
              have := D.uniq p i o2 _ d' q1 him ho2 ho (hd2.trans e) h2.1
              exact hiM (this ▸ hpM)
            by_cases e : t = d'
            · subst e
              rw [sE seq t _ hsM hnoM, inCome _ t i x ((hset i).2 (.inl rfl)) h1] at hy
              cases hy
              exact hp1.env t x (by rw [look_cons, if_pos rfl])
            · refine hp1.env t y ?_
              rw [look_cons, if_neg e, ← hy]
              exact look_congr (comeSet t d' x h1 e).symm
      · have hall : ∀ j, j < i → l.getD j false = true := fun j hj => anc j (D.late i j (by omega) hi' hj)
        have him2 : i = m := by
          rcases Nat.lt_or_ge m i with h | h
          · have := hall m h; rw [hlate m (Nat.le_refl _)] at this; cases this
          · omega
        subst him2
        have hwl := fin l a w hall ⟨seq, hnd, hmem, hH⟩
        rw [List.drop_eq_getElem_cons hi'] at hwl
        unfold Go.wpOp
        simp only [hoa]
        unfold wpList at hwl
        have hfin : ∀ a w, wpList P ol.toArray Q (ol.drop (i + 1)) a w → Dn (l.setIfInBounds i true) ∧ ((∀ j, i ≤ j → (l.setIfInBounds i true).getD j false = false) ∧ St (l.setIfInBounds i true) a w ∨ ∃ k, i < k ∧ k ≤ ol.length ∧ (∀ j, (l.setIfInBounds i true).getD j false = true ↔ j < k) ∧ wpList P ol.toArray Q (ol.drop k) a w) := by
          intro a w h
          refine ⟨hdn', .inr ⟨i + 1, by omega, by omega, fun j => ?_, h⟩⟩
          rw [hset j]
          constructor
          · rintro (rfl | h2)
            · omega
            · by_cases hji : i ≤ j
              · rw [hlate j hji] at h2; cases h2
              · omega
          · intro h2
            by_cases hji : j = i
            · exact .inl hji
            · exact .inr (hall j (by omega))
        split
        · rename_i hw
          rw [if_pos hw] at hwl
          exact hwl.imp (Oper.wp_mono hfin) (fun x => x)
        · rename_i hw
          rw [if_neg hw] at hwl
          exact hfin _ _ hwl
    · have hk2 : i = k' := by
        have h1 : ¬ i < k' := fun h => by
          have := (hl i).2 h
          rw [hni'] at this; cases this
        rcases Nat.lt_or_ge k' i with h | h
        · have := (hl k').1 (anc k' (D.late i k' (by omega) hi' h))
          omega
        · omega
      subst hk2
      rw [List.drop_eq_getElem_cons hi'] at hwp
      unfold Go.wpOp
      simp only [hoa]
      unfold wpList at hwp
      have hfin : ∀ a w, wpList P ol.toArray Q (ol.drop (i + 1)) a w → Dn (l.setIfInBounds i true) ∧ ((∀ j, m ≤ j → (l.setIfInBounds i true).getD j false = false) ∧ St (l.setIfInBounds i true) a w ∨ ∃ k, m < k ∧ k ≤ ol.length ∧ (∀ j, (l.setIfInBounds i true).getD j false = true ↔ j < k) ∧ wpList P ol.toArray Q (ol.drop k) a w) := by
        intro a w h
        refine ⟨hdn', .inr ⟨i + 1, by omega, by omega, fun j => ?_, h⟩⟩
        rw [hset j, hl j]
        omega
      split
      · rename_i hw
        rw [if_pos hw] at hwp
        exact hwp.imp (Oper.wp_mono hfin) (fun x => x)
      · rename_i hw
        rw [if_neg hw] at hwp
        exact hfin _ _ hwp
  · rintro l a w ⟨hdn, hI⟩ hall
    rcases hI with ⟨hlate, hSt⟩ | ⟨k', hk, hkl, hl, hwp⟩
    · have hmm : m = ol.length := by
        rcases Nat.lt_or_ge m ol.length with h | h
        · have := hall m (by simpa using h)
          rw [hlate m (Nat.le_refl _)] at this; cases this
        · omega
      have := fin l a w (fun j hj => hall j (by simp; omega)) hSt
      rw [hmm, List.drop_length] at this
      exact this
    · have hkk : k' = ol.length := by
        rcases Nat.lt_or_ge k' ol.length with h | h
        · have := (hl k').1 (hall k' (by simpa using h))
          omega
        · omega
      rw [hkk, List.drop_length] at hwp
      exact hwp
  · unfold cntF
    refine Nat.le_trans (List.countP_le_length) (by simp)
  · have hrep : ∀ j, (Array.replicate ol.toArray.size false).getD j false = false := by
      intro j
      by_cases hj : j < ol.length <;> simp [Array.getD_eq_getD_getElem?, hj]
    refine ⟨fun i hi => ?_, .inl ⟨fun j _ => hrep j, [], List.nodup_nil, fun p => ⟨fun h => (by cases h), fun h => by rw [hrep p] at h; cases h.2⟩, ?_⟩⟩
    · rw [hrep i] at hi; cases hi
    · have : come out (Array.replicate ol.toArray.size false) env = env := by
        unfold come
        have : (List.range out.length).filter (fun i => (Array.replicate ol.toArray.size false).getD i false) = [] := by
          rw [List.filter_eq_nil_iff]
          intro i _
          rw [hrep i]
          simp
        rw [this]
        rfl
      have hfil : (M.filter fun p => !(Array.replicate ol.toArray.size false).getD p false) = M := List.filter_eq_self.2 (fun p _ => by rw [hrep p]; rfl)
      show Holds w0 N ([] ++ come out _ env) ([] ++ ((M.filter fun p => !(Array.replicate ol.toArray.size false).getD p false).flatMap X ++ hp)) _ _
      rw [this, hfil]
      exact ⟨hh.size, hh.defers, hh.env, hh.heap.drawn _⟩
theorem any_drawM {ι : Type} [Nonempty ι] {ol : List Oper} {out : Env} (m : Nat) (M : List Nat) (dm : Nat → Nat) (v : Nat → ι → Value) (it : Nat → ι → Item) (hok : okDrawE ol m N M = true) (hc : ChainM P w0 hp ol.toArray M N 0 (ol.take m) env out)
    (hM : ∀ p ∈ M, ∃ o, ol[p]? = some o ∧ o.dst = some (dm p) ∧ OpM P o ((out.take p).reverse ++ env) w0 hp (v p) (it p))
    (k : ∀ x : Nat → ι, WL P ol.toArray Q w0 N (ol.drop m) (M.map (fun p => (dm p, v p (x p))) ++ (out.reverse ++ env)) (M.map (fun p => it p (x p)) ++ hp)) : WA P ol Q w0 N env hp := by
  refine any_drawE m M (fun p => some (dm p)) v (fun _ => []) (fun p x => [it p x]) hok hc hM (by
    have : M.flatMap (fun _ => ([] : List Item)) = [] := List.flatMap_eq_nil_iff.2 (fun _ _ => rfl)
    rw [this]; rfl) (fun x => ?_)
  have h1 : M.filterMap (fun p => (some (dm p)).map fun d => (d, v p (x p))) = M.map (fun p => (dm p, v p (x p))) := by
    rw [← List.filterMap_eq_map]; rfl
  have h2 : M.flatMap (fun p => [it p (x p)]) = M.map (fun p => it p (x p)) := by
    clear hM hc hok k h1
    induction M with
    | nil => rfl
    | cons p M ih => rw [List.flatMap_cons, List.map_cons, ih]; rfl
  rw [h1, h2]
  exact k x
theorem any_draw1 {ι : Type} [Nonempty ι] {ol : List Oper} {out : Env} {o : Oper} (m p d : Nat) (v : ι → Value) (it : ι → Item) (hok : okDrawE ol m N [p] = true) (hc : ChainM P w0 hp ol.toArray [p] N 0 (ol.take m) env out)
    (ho : ol[p]? = some o) (hd : o.dst = some d) (hM : OpM P o ((out.take p).reverse ++ env) w0 hp v it)
    (k : ∀ x : ι, WL P ol.toArray Q w0 N (ol.drop m) ((d, v x) :: (out.reverse ++ env)) (it x :: hp)) :
    WA P ol Q w0 N env hp :=
  any_drawM m [p] (fun _ => d) (fun _ => v) (fun _ => it) hok hc (fun q hq => by obtain rfl := List.mem_singleton.1 hq; exact ⟨o, ho, hd, hM⟩) (fun X => k (X p))
theorem any_drawE1 {ι : Type} [Nonempty ι] {ol : List Oper} {out : Env} {hp0 : List Item} {o : Oper} (m p : Nat) (d : Option Nat) (v : ι → Value) (X : List Item) (X' : ι → List Item) (hok : okDrawE ol m N [p] = true) (hc : ChainM P w0 hp ol.toArray [p] N 0 (ol.take m) env out)
    (ho : ol[p]? = some o) (hd : o.dst = d) (hM : OpE P o ((out.take p).reverse ++ env) w0 hp X v X') (hX : hp0 = X ++ hp)
    (k : ∀ x : ι, WL P ol.toArray Q w0 N (ol.drop m) ((d.map fun d => (d, v x)).toList ++ (out.reverse ++ env)) (X' x ++ hp)) : WA P ol Q w0 N env hp0 := by
  refine any_drawE m [p] (fun _ => d) (fun _ => v) (fun _ => X) (fun _ => X') hok hc (fun q hq => by obtain rfl := List.mem_singleton.1 hq; exact ⟨o, ho, hd, hM⟩) (by rw [hX]; simp) (fun x => ?_)
  have h1 : [p].filterMap (fun q => d.map fun d => (d, v (x q))) = (d.map fun d => (d, v (x p))).toList := by
    cases d <;> rfl
  have h2 : [p].flatMap (fun q => X' (x q)) = X' (x p) := by simp
  rw [h1, h2]
  exact k (x p)
theorem oe_store {T T' : TypeId} {x y : Operand} {b off n : Nat} {cs vs cs' : List Value} {v : Value} (ho : o.op = .store T x y) (hx : evE x env = some (.pointer (some ⟨b, off, none⟩))) (hy : evE y env = some v)
    (hs : P.sizeIs T = some n) (hv : v.cells = vs.toArray) (hn : vs.length = n) (hfit : off + n ≤ cs.length) (h1 : ∀ u ∈ vs, u.oneCell' = true) (hc : cs.take off ++ vs ++ cs.drop (off + vs.length) = cs') : OpE P o env w0 hp [.blk b cs T'] (fun _ : Unit => undef) (fun _ => [.blk b cs' T']) := by
  subst hc
  intro R a w he hh
  have hi : ([.blk b cs T'] ++ (R ++ hp) : List Item)[0]? = some (.blk b cs T') := rfl
  have hb := hh.get hi
  have hr := run_storeCells_at P b off T' vs 0 cs.toArray w hb (by simp; omega) h1
  unfold execOp
  simp only [ho, ev_of he hx, ev_of he hy, Instr.storeAt, Instr.sureAddr, storeVar, Sem.run_bind, Sem.run_pure, Result.andThen_ok, hv, List.size_toArray, run_sizeOf hs, hn, ne_eq, not_true, if_false, hr]
  refine ⟨(), rfl, ?_⟩
  have := hh.setRow hi (cs' := cs.take off ++ vs ++ cs.drop (off + vs.length))
  simpa [hn] using this
def pickL (is : List Nat) (hp : List Item) : List Item := is.filterMap (fun i => hp[i]?)
theorem HeapOK.pick {w : World} (h : HeapOK w0 hp w) (is : List Nat) (hn : is.Nodup) (hl : is.all (fun i => decide (i < hp.length)) = true) : HeapOK w0 (pickL is hp) w := by
  refine h.at is hn ?_
  unfold pickL
  clear hn
  induction is with
  | nil => rfl
  | cons i is ih =>
    simp only [List.all_cons, Bool.and_eq_true, decide_eq_true_eq] at hl
    rw [List.map_cons, List.filterMap_cons, List.getElem?_eq_getElem hl.1, List.map_cons, ← ih hl.2]
theorem wc_pick {c : Code} (is : List Nat) (hn : is.Nodup) (hl : is.all (fun i => decide (i < hp.length)) = true) (k : WC P c Q w0 N env (pickL is hp)) : WC P c Q w0 N env hp := fun a w h => k a w ⟨h.size, h.defers, h.env, h.heap.pick is hn hl⟩
theorem wl_pick (is : List Nat) (hn : is.Nodup) (hl : is.all (fun i => decide (i < hp.length)) = true) (k : WL P ops Q w0 N l env (pickL is hp)) : WL P ops Q w0 N l env hp := fun a w h => k a w ⟨h.size, h.defers, h.env, h.heap.pick is hn hl⟩
end
end Go.Sx
end
section
namespace Go.Sx
open Go.RowKit
set_option linter.unusedVariables false
set_option linter.unusedSimpArgs false
abbrev Rd (l : Nat) : Fence := Fence.wide.inRound l
section
variable {P : Program} {ops : Array Oper} {Q : Exit → Act → World → Prop} {o : Oper} {l n : Nat}
theorem callsIn_rd {f : FuncId} {args : Array Value} {w : World} {R : Ending → World → Prop} (h : Calls P f args w R) : CallsIn (Rd l) n P f args w R := (callsIn_wide (n := n)).2 h
theorem rowsIn_rd {row : String} {args : Array Value} {w : World} {R : Value → World → Prop} (h : Rows P row args w R) : RowsIn (Rd l) n P row args w R := fun c cs _ =>
  let ⟨v, w', r, s⟩ := h c cs; ⟨v, w', r, stepsIn_wide.2 s⟩
theorem op_round {a : Act} {w : World} {K : Act → World → Prop} (hnd : ∀ c, o.op ≠ .defer c) (h : o.wp P a w K Q) : o.wpIn (Rd l) n P a w K Q := by
  unfold Oper.wp at h
  unfold Oper.wpIn
  refine ⟨fun f _ => trivial, ?_⟩
  rw [Oper.semAt_eq _ _ _ hnd]
  generalize (execOp a.eval o).run P w = r at h ⊢
  cases r with
  | halt x w' => cases x <;> first | exact h | exact h.elim
  | ok nx w' =>
    cases nx <;> first
      | exact h
      | exact h.elim
      | exact ⟨fun e => (by cases e), callsIn_rd h⟩
      | exact ⟨fun e => (by cases e), rowsIn_rd h⟩
def quietB (ol : List Oper) : Bool := ol.all fun o => match o.op with | .defer _ => false | _ => true
theorem quiet_mem {ol : List Oper} (h : quietB ol = true) {o : Oper} (ho : o ∈ ol) : ∀ c, o.op ≠ .defer c := by
  intro c e
  have := List.all_eq_true.1 h o ho
  rw [e] at this
  cases this
theorem list_round (hL : ∀ a w, ¬ Q .outgrown a w) : ∀ (r : List Oper), (∀ o ∈ r, ∀ c, o.op ≠ .defer c) → ∀ a w, wpList P ops Q r a w → wpListIn (Rd l) n P ops Q r a w
  | [], _, a, w, h => h
  | o :: r, hq, a, w, h => by
    have ih := list_round hL r (fun o ho => hq o (List.mem_cons_of_mem _ ho))
    unfold wpList at h
    unfold wpListIn
    split
    · rename_i hw
      rw [if_pos hw] at h
      rcases h with h | ⟨_, a', w', h⟩
      · exact op_round (hq o List.mem_cons_self) (Oper.wp_mono (fun a w h => ih a w h) h)
      · exact absurd h (hL a' w')
    · rename_i hw
      rw [if_neg hw] at h
      exact ⟨fun f _ => trivial, ih _ _ h⟩
theorem any_round (hL : ∀ a w, ¬ Q .outgrown a w) (hq : ∀ (i : Nat) (o : Oper), ops[i]? = some o → ∀ c, o.op ≠ .defer c) : ∀ (fuel : Nat) (b : Array Bool) (a : Act) (w : World), wpAny P .any ops Q fuel b a w → wpAnyIn (Rd l) n P .any ops Q fuel b a w
  | 0, b, a, w, h => h
  | fuel + 1, b, a, w, h => by
    refine ⟨h.1, fun i hi => ?_⟩
    have := h.2 i hi
    unfold wpOp at this
    unfold wpOpIn
    cases ho : ops[i]? with
    | none => rw [ho] at this; exact any_round hL hq fuel _ a w this
    | some o =>
      rw [ho] at this
      simp only at this ⊢
      split
      · rename_i hw
        rw [if_pos hw] at this
        rcases this with h | ⟨_, a', w', h⟩
        · exact op_round (hq i o ho) (Oper.wp_mono (fun a w h => any_round hL hq fuel _ a w h) h)
        · exact absurd h (hL a' w')
      · rename_i hw
        rw [if_neg hw] at this
        exact ⟨fun f _ => trivial, any_round hL hq fuel _ _ _ this⟩
end
def WCI (l n : Nat) (P : Program) (c : Code) (Q : Exit → Act → World → Prop) (w0 : World) (N : Fr) (env : Env) (hp : List Item) : Prop := ∀ a w, Holds w0 N env hp a w → c.wpIn (Rd l) n P Q a w
section
variable {P : Program} {ops : Array Oper} {Q : Exit → Act → World → Prop} {w0 : World} {N : Fr} {env : Env} {hp : List Item} {o : Oper} {l n : Nat}
theorem wci_region {id : Nat} {ol : List Oper} (hq : quietB ol = true) (h : WL P ol.toArray Q w0 N ol env hp) (hL : ∀ a w, ¬ Q .outgrown a w := by first | exact fun _ _ h => h | exact fun _ _ h => nomatch (show _ ∧ _ from h).1) : WCI l n P (.region id ol.toArray false) Q w0 N env hp := fun a w hh =>
  wpIn_region_lit (list_round hL ol (fun o ho => quiet_mem hq ho) a w (h a w hh))
theorem wci_any {id : Nat} {ol : List Oper} (hm : P.follows .mixedOrders = true) (hq : quietB ol = true) (h : WA P ol Q w0 N env hp) (hL : ∀ a w, ¬ Q .outgrown a w := by first | exact fun _ _ h => h | exact fun _ _ h => nomatch (show _ ∧ _ from h).1) : WCI l n P (.region id ol.toArray true) Q w0 N env hp := fun a w hh =>
  wpIn_region_any hm (any_round hL (fun i o ho => quiet_mem hq (by simpa using List.mem_of_getElem? (l := ol) (by simpa using ho))) _ _ a _ (h a w hh))
theorem wci_block {id : Nat} {c : Code} (h : WCI l n P c (Exit.inBlock id Q) w0 N env hp) : WCI l n P (.block id c) Q w0 N env hp := fun a w hh => wpIn_block (h a w hh)
def Item.solid (w0 : World) : Item → Prop
  | .blk _ _ _ => True
  | .own _ _ _ _ _ _ => True
  | .obj _ _ => False
  | .ro F _ => ∀ k, F k → k < w0.heap.size
  | .rd _ _ => True
theorem solid_foot {w W : World} {it : Item} (hs : it.solid w0) (hk : it.ok W) {k : Nat} (hf : it.foot k) : k < w0.heap.size ∨ ∃ o : Obj, W.heap[k]? = some o ∧ o.isCells = true := by
  cases it with
  | blk b cs T => obtain rfl : k = b := hf; exact .inr ⟨_, hk, rfl⟩
  | obj b o => exact hs.elim
  | ro F w => exact .inl (hs k hf)
  | rd A cs =>
    obtain ⟨hc, ad, rfl, rfl⟩ := hf
    rcases hk with hk | ⟨_, e, hk⟩
    · exact absurd hk hc
    · cases e
      obtain ⟨c, r, rfl⟩ : ∃ c r, cs = c :: r := by cases cs with | nil => exact absurd rfl hc | cons c r => exact ⟨c, r, rfl⟩
      have := hk 0 c rfl
      rw [add_zero] at this
      unfold World.cell? at this
      split at this
      · rename_i cc e f ho; exact .inr ⟨_, ho, rfl⟩
      · cases this
  | own base e size v n xs =>
    rcases hk.2 with ⟨rfl, _⟩ | ⟨g, cap, cur, rfl, hg, hh, r⟩
    · cases hf
    · cases hf; exact .inr ⟨_, hh, rfl⟩
theorem HeapOK.grown {W W' : World} {row : Option Nat} {B : Nat} (h : HeapOK w0 hp W) (hs : ∀ it ∈ hp, it.solid w0) (hB : w0.heap.size ≤ B) (hg : W.grownBy W' row) (hr : ∀ r, row = some r → B ≤ r ∧ ∃ o : Obj, W.heap[r]? = some o ∧ o.isCells = false) : HeapOK w0 hp W' where
  os := hg.os.trans h.os
  tape := hg.tape.trans h.tape
  output := hg.output.trans h.output
  size := Nat.le_trans h.size hg.size
  ok := fun it hi => Item.ok_move (h.ok it hi) (fun k hk => hg.block k (h.bound it hi k hk) (fun e => by
    obtain ⟨h1, o, ho, hc⟩ := hr k e.symm
    rcases solid_foot (w := W) (hs it hi) (h.ok it hi) hk with h2 | ⟨o', ho', hc'⟩
    · omega
    · rw [ho] at ho'; cases ho'; rw [hc] at hc'; cases hc'))
  bound := fun it hi k hk => Nat.lt_of_lt_of_le (h.bound it hi k hk) hg.size
  apart := h.apart
theorem HeapOK.withObj {W : World} {D : Nat} {ob : Obj} (h : HeapOK w0 hp W) (hs : ∀ it ∈ hp, it.solid w0) (hB : w0.heap.size ≤ D) (hD : W.heap[D]? = some ob) (hc : ob.isCells = false) : HeapOK w0 (.obj D ob :: hp) W where
  os := h.os
  tape := h.tape
  output := h.output
  size := h.size
  ok := fun it hi => by
    rcases List.mem_cons.1 hi with rfl | hi
    · exact hD
    · exact h.ok it hi
  bound := fun it hi k hk => by
    rcases List.mem_cons.1 hi with e | hi
    · subst e
      have e : k = D := hk
      rw [e]
      exact (Array.getElem?_eq_some_iff.1 hD).1
    · exact h.bound it hi k hk
  apart := List.pairwise_cons.2 ⟨(fun it hi => .inr fun k hk hk2 => by
    have e : k = D := hk
    subst e
    rcases solid_foot (w := W) (hs it hi) (h.ok it hi) hk2 with h2 | ⟨o', ho', hc'⟩
    · omega
    · rw [hD] at ho'; cases ho'; rw [hc] at hc'; cases hc'), h.apart⟩
def rest (W : World) (hp : List Item) : Item := .ro (fun k => k < W.heap.size ∧ ∀ it ∈ hp, ¬ it.foot k) W
theorem HeapOK.focus {W : World} (h : HeapOK w0 hp W) : HeapOK W (hp ++ [rest W hp]) W where
  os := rfl
  tape := rfl
  output := rfl
  size := Nat.le_refl _
  ok := fun it hi => by
    rcases List.mem_append.1 hi with hi | hi
    · exact h.ok it hi
    · obtain rfl := List.mem_singleton.1 hi
      exact fun k _ => rfl
  bound := fun it hi k hk => by
    rcases List.mem_append.1 hi with hi | hi
    · exact h.bound it hi k hk
    · obtain rfl := List.mem_singleton.1 hi
      exact hk.1
  apart := List.pairwise_append.2 ⟨h.apart, List.pairwise_singleton _ _, (fun a ha b hb => .inr fun k hk hk2 => by
    obtain rfl := List.mem_singleton.1 hb
    exact hk2.2 a ha hk)⟩
theorem HeapOK.rebase {W W' : World} {hp' : List Item} (h : HeapOK w0 hp W) (h' : HeapOK W hp' W') : HeapOK w0 hp' W' :=
  ⟨h'.os.trans h.os, h'.tape.trans h.tape, h'.output.trans h.output, Nat.le_trans h.size h'.size, h'.ok, h'.bound, h'.apart⟩
theorem keeps_of {W W' : World} {B : Nat} {hp' : List Item} (h : HeapOK w0 hp W) (hs : ∀ it ∈ hp, it.solid w0) (hB : w0.heap.size ≤ B) (h' : HeapOK W (hp' ++ [rest W hp]) W') : KeepsFrom B W W' := by
  refine ⟨h'.size, fun k o hk ho hc => ?_⟩
  have hin : rest W hp ∈ hp' ++ [rest W hp] := List.mem_append_right _ (List.mem_singleton.2 rfl)
  refine (h'.ok _ hin k ⟨(Array.getElem?_eq_some_iff.1 ho).1, fun it hi hf => ?_⟩).trans ho
  rcases solid_foot (w := W) (hs it hi) (h.ok it hi) hf with h2 | ⟨o', ho', hc'⟩
  · omega
  · rw [ho] at ho'; cases ho'; rw [hc] at hc'; cases hc'
def AsgQ (E : Env) (W : World) (N : Fr) : Exit → Act → World → Prop := fun e a w => e = .normal ∧ Holds W N E [old W] a w
def RdQ {β : Type} (W : World) (hp : List Item) (hn : β → List Item) (hs : Code → β → Option (List Item)) : Exit → Act → World → Prop
  | .normal, _, w => ∃ y, HeapOK W (hn y ++ [rest W hp]) w
  | .ret, _, w => ∃ y x, hs .ret y = some x ∧ HeapOK W (x ++ [rest W hp]) w
  | .exit id, _, w => ∃ y x, hs (.exit id) y = some x ∧ HeapOK W (x ++ [rest W hp]) w
  | .goto _, _, _ => False
  | .panic _, _, _ => False
  | .outgrown, _, _ => False
theorem wc_rangeFunc {α β : Type} {gf : Nat} {lb : List Value} {g : Operand} {ps : Array Tmp} {assign body : Code} {encs : α → Array Value} {Kp : World → World → Prop} {S Sp : List α → Prop} {M : Nat}
    (J : List α → β → List Item) (y0 : β) (Jx : Code → List α → β → Option (List Item)) (E z : α → Env) (hz : ∀ x, (ps.zip (encs x)).toList.reverse = z x) (hg : evE g env = some (.func (.func gf) #[] lb.toArray)) (he : Ent P gf) (h0 : hp = J [] y0) (hJ : ∀ pre y, ∀ it ∈ J pre y, it.solid w0) (hJx : ∀ c pre y x, Jx c pre y = some x → ∀ it ∈ x, it.solid w0)
    (hps : ∀ x, (encs x).size = ps.size)
    (hseq : ∀ w, HeapOK w0 (J [] y0) w → SeqStopsK Fence.wide 9 P gf lb.toArray encs Kp S Sp M w)
    (hKt : ∀ {A B C : World}, Kp A B → Kp B C → Kp A C) (hKb : ∀ (w W : World) (l : Nat) (o o' : Obj), HeapOK w0 (J [] y0) w → w.heap.size ≤ l → W.heap[l]? = some o → o.isCells = false → o.isWalk = false → Kp W (W.putObj l o'))
    (hKo : ∀ W W', Below W.heap.size W W' → w0.heap.size ≤ W.heap.size → (∃ pre y, HeapOK w0 (J pre y) W) → Kp W W')
    (hKp : ∀ pre y y' x W W', HeapOK w0 (J pre y) W → HeapOK W (J (pre ++ [x]) y' ++ [rest W (J pre y)]) W' → Kp W W')
    (hassign : ∀ l x W, WCI l 8 P assign (AsgQ (E x) W ⟨N.n, []⟩) W ⟨N.n, []⟩ (z x ++ env) [old W])
    (hlt : ∀ p ∈ ps.toList, p < N.n)
    (hbody : ∀ l pre y x W, HeapOK w0 (J pre y) W → pre.length < M → WCI l 8 P body (RdQ W (J pre y) (J (pre ++ [x])) (fun c => Jx c (pre ++ [x]))) W ⟨N.n, []⟩ (E x) (J pre y ++ [rest W (J pre y)]))
    (hdone : ∀ D xs y, S xs → FQ Q .normal w0 ⟨N.n, { target := .collected D, args := #[] } :: N.ds⟩ env (.obj D (.deferred (some [])) :: J xs y))
    (hstop : ∀ D c xs y x, Sp xs → Jx c xs y = some x → WC P c Q w0 ⟨N.n, { target := .collected D, args := #[] } :: N.ds⟩ env (.obj D (.deferred (some [])) :: x)) :
    WC P (.rangeFunc g ps assign body) Q w0 N env hp := by
  intro a w hh
  subst h0
  have hsz : w0.heap.size ≤ w.heap.size := hh.heap.size
  refine (wpIn_wide (n := 10)).1 ?_
  refine wpIn_rangeFunc_ownH rfl (by decide) (ev_of hh.env hg) trivial (fun args w => ?_) (hseq w hh.heap) (fun h k => hKt h k) (fun W l o o' hl ho hc hw => hKb w W l o o' hh.heap hl ho hc hw) (Below.refl _ _) hps
    (fun pre W => ∃ y, HeapOK w0 (J pre y) W) (fun c xs W => ∃ y x, Jx c xs y = some x ∧ HeapOK w0 x W)
    (fun pre A B row h hg hr => h.imp fun y h => h.grown (hJ pre y) hsz hg hr) (fun c pre A B row h hg hr => by
      obtain ⟨y, x, hx, h⟩ := h
      exact ⟨y, x, hx, h.grown (hJx c pre y x hx) hsz hg hr⟩) ⟨y0, hh.heap⟩
    (fun x a' _ => a'.tmps.size = N.n ∧ a'.defers = [] ∧ EnvOK (E x) a') (fun x a' s A B row h hg hr => h) ?_ ?_ ?_ ?_
  · exact he args w
  · rintro l pre x W K ⟨yI, hI⟩ hK
    have hfold : ∀ (L : List (Tmp × Value)) (t : Array Value) (E0 : Env), t.size = N.n → EnvOK E0 { tmps := t, defers := [] } → (∀ p ∈ L, p.1 < N.n) →
        (L.foldl (fun t (p : Tmp × Value) => t.setIfInBounds p.1 p.2) t).size = N.n ∧ EnvOK (L.reverse ++ E0) { tmps := L.foldl (fun t (p : Tmp × Value) => t.setIfInBounds p.1 p.2) t, defers := [] } := by
      intro L
      induction L with
      | nil => exact fun t E0 h1 h2 _ => ⟨h1, h2⟩
      | cons p L ih =>
        intro t E0 h1 h2 h3
        have := ih (t.setIfInBounds p.1 p.2) ((p.1, p.2) :: E0) (by simpa using h1) (h2.put p.1 p.2 (by rw [h1]; exact h3 p List.mem_cons_self)) (fun q hq => h3 q (List.mem_cons_of_mem _ hq))
        simpa [List.reverse_cons, List.append_assoc] using this
    have hf := hfold (ps.zip (encs x)).toList a.tmps env hh.size (fun t v h => hh.env t v h) (fun p hp => by
      have : p.1 ∈ ps.toList := by
        rw [Array.toList_zip] at hp
        exact (List.of_mem_zip (a := p.1) (b := p.2) hp).1
      exact hlt _ this)
    rw [Array.foldl_toList] at hf
    have hst : Holds W ⟨N.n, []⟩ (z x ++ env) [old W] { tmps := (ps.zip (encs x)).foldl (fun t (p, v) => t.setIfInBounds p v) a.tmps, defers := [] } W := ⟨hf.1, rfl, (by rw [← hz x]; exact hf.2), HeapOK.start W⟩
    refine wpIn_mono (hassign l x W _ _ hst) ?_
    rintro e a' W' ⟨rfl, hA⟩
    have hb : Below W.heap.size W W' := hA.heap.toBelow (by simp)
    exact hK a' W' ⟨hb.size, fun k o _ ho _ => (hb.block k (Array.getElem?_eq_some_iff.1 ho).1).trans ho⟩ (hKo W W' hb hI.size ⟨pre, yI, hI⟩) ⟨yI, hI.below hb⟩ ⟨hA.size, hA.defers, hA.env⟩
  · rintro l pre x a' W hl ⟨r, hr⟩ ⟨yI, hI⟩ ⟨hA1, hA2, hA3⟩ hlen
    refine wpIn_mono (hbody l pre yI x W hI hlen a' W ⟨hA1, hA2, hA3, hI.focus⟩) ?_
    rintro e a3 W3 hq
    cases e with
    | normal =>
      obtain ⟨y', hq⟩ := hq
      exact ⟨keeps_of hI (hJ pre yI) hsz hq, hKp pre yI y' x W W3 hI hq, y', (hI.rebase hq).sub (List.sublist_append_left _ _)⟩
    | ret =>
      obtain ⟨y', y, hy, hq⟩ := hq
      exact ⟨keeps_of hI (hJ pre yI) hsz hq, y', y, hy, (hI.rebase hq).sub (List.sublist_append_left _ _)⟩
    | exit id =>
      obtain ⟨y', y, hy, hq⟩ := hq
      exact ⟨keeps_of hI (hJ pre yI) hsz hq, y', y, hy, (hI.rebase hq).sub (List.sublist_append_left _ _)⟩
    | goto t => exact hq.elim
    | panic ch => exact hq.elim
    | outgrown => exact hq.elim
  · rintro D xs W hD hS ⟨yI, hI⟩ hk
    exact hdone D xs yI hS _ _ ⟨hh.size, by simp [hh.defers], hh.env, hI.withObj (hJ xs yI) (by omega) hk rfl⟩
  · rintro D c xs W hD hS ⟨y, x, hx, hI⟩ hk
    exact (wpIn_wide (n := 10)).2 (hstop D c xs y x hS hx _ _ ⟨hh.size, by simp [hh.defers], hh.env, hI.withObj (hJx c xs y x hx) (by omega) hk rfl⟩)
theorem enterM {f : Nat} {fn : Func} {c : Code} {vs : List Value} {w : World} {R : Ending → World → Prop} (hf : P.funcs[f]? = some fn) (hb : fn.body = some c) (n : Nat) (hn : n = fn.ntmps) (hl : vs.length ≤ n) (henv : (vs.zipIdx.map fun x => (x.2, x.1)) = env) (hh : HeapOK w0 hp w)
    (h : WC P c (bodyPostM Fence.wide 10 P fn R) w0 ⟨n, []⟩ env hp) : Calls P f vs.toArray w R := by
  subst henv
  refine (callsIn_wide (n := 10)).1 (callsIn_of_wp_marks hf hb trivial ((wpIn_wide (n := 10)).2 (h _ _ ⟨?_, rfl, ?_, hh⟩)))
  · simp; omega
  · intro t v ht
    have hm := look_mem ht
    rw [List.mem_map] at hm
    obtain ⟨⟨u, i⟩, hm, e⟩ := hm
    simp only [Prod.mk.injEq] at e
    obtain ⟨rfl, rfl⟩ := e
    have := List.mem_zipIdx_iff_getElem?.1 hm
    simp only at this
    obtain ⟨h1, h2⟩ := List.getElem?_eq_some_iff.1 this
    simp [Array.getD_eq_getD_getElem?, Array.getElem?_append, h1, h2]
theorem fqM {fn : Func} {R : Ending → World → Prop} {v : Value} {e : Exit} (he : e = .ret ∨ e = .normal) (hN : N.ds = []) (hrun : ∀ a w, EnvOK env a → HeapOK w0 hp w → (results fn a.tmps).run P w = .ok v w) (h : ∀ w, HeapOK w0 hp w → R (.returned v) w) : FQ (bodyPostM Fence.wide n P fn R) e w0 N env hp := fun a w hh => by
  have hd : a.defers = [] := hh.defers.trans hN
  rcases he with rfl | rfl
  · show LeavesInM _ _ _ _ _ _ a.defers _ _
    rw [hd]
    exact ⟨v, hrun a w hh.env hh.heap, h w hh.heap⟩
  · show LeavesInM _ _ _ _ _ _ a.defers _ _
    rw [hd]
    exact ⟨v, hrun a w hh.env hh.heap, h w hh.heap⟩
theorem HeapOK.shut {W : World} {D i : Nat} {ob ob' : Obj} (h : HeapOK w0 hp W) (hi : hp[i]? = some (.obj D ob)) : HeapOK w0 (hp.eraseIdx i) (W.putObj D ob') := by
  have hap := List.pairwise_iff_getElem.1 h.apart
  obtain ⟨hil, hie⟩ := List.getElem?_eq_some_iff.1 hi
  have hne : ∀ it ∈ hp.eraseIdx i, ¬ it.foot D := by
    intro it hit hf
    obtain ⟨j, hj, rfl⟩ := List.mem_iff_getElem.1 hit
    rw [List.getElem_eraseIdx] at hf
    split at hf
    · rename_i hji
      exact (hap j i (by omega) hil hji).r (by rw [hie]; rfl) D hf (by rw [hie]; rfl)
    · rename_i hji
      exact hap i (j + 1) hil (by have := List.length_eraseIdx_of_lt hil; omega) (by omega) |>.l (by rw [hie]; rfl) D (by rw [hie]; rfl) hf
  have hs := h.sub (List.eraseIdx_sublist hp i)
  refine ⟨hs.os, hs.tape, hs.output, by simpa using hs.size, fun it hit => Item.ok_move (hs.ok it hit) (fun k hk => World.putObj_heap_other (fun e => hne it hit (e ▸ hk))), fun it hit k hk => by simpa using hs.bound it hit k hk, hs.apart⟩
theorem fqM_mark {fn : Func} {R : Ending → World → Prop} {v : Value} {e : Exit} {D : Nat} (i : Nat) (he : e = .ret ∨ e = .normal) (hN : N.ds = [{ target := .collected D, args := #[] }]) (hi : hp[i]? = some (.obj D (.deferred (some [])))) (hrun : ∀ a w, EnvOK env a → HeapOK w0 (hp.eraseIdx i) w → (results fn a.tmps).run P w = .ok v w) (h : ∀ w, HeapOK w0 (hp.eraseIdx i) w → R (.returned v) w) : FQ (bodyPostM Fence.wide n P fn R) e w0 N env hp := fun a w hh => by
  have hd : a.defers = [{ target := .collected D, args := #[] }] := hh.defers.trans hN
  have hk : w.heap[D]? = some (.deferred (some [])) := hh.heap.get hi
  have h2 := hh.heap.shut (ob' := .deferred none) hi
  rcases he with rfl | rfl
  · show LeavesInM _ _ _ _ _ _ a.defers _ _
    rw [hd]
    exact ⟨by simp, .inl ⟨_, _, rfl, run_takeDeferred hk, v, hrun a _ hh.env h2, h _ h2⟩⟩
  · show LeavesInM _ _ _ _ _ _ a.defers _ _
    rw [hd]
    exact ⟨by simp, .inl ⟨_, _, rfl, run_takeDeferred hk, v, hrun a _ hh.env h2, h _ h2⟩⟩
theorem res_ctt {fn : Func} {t u r : Nat} {T : TypeId} {b i : Nat} {cs : List Value} {x y : Value} {T' : TypeId} {n : Nat} (hr : fn.results = #[.cell t T, .tmp u, .tmp r]) (hv : look t env = some (.pointer (some ⟨b, 0, none⟩))) (hx : look u env = some x) (hy : look r env = some y) (hi : hp[i]? = some (.blk b cs T')) (hT : P.manyB T = some true) (hs : P.sizeIs T = some n) (hn : cs.length = n) :
    ∀ a w, EnvOK env a → HeapOK w0 hp w → (results fn a.tmps).run P w = .ok (.tuple #[.agg cs.toArray, x, y]) w := fun a w he hh => by
  have h1 := run_loadCells_list (P := P) w ⟨b, 0, none⟩ cs (readsAll hi w hh)
  rw [hn] at h1
  have h3 : a.tmps[t]?.getD undef = .pointer (some ⟨b, 0, none⟩) := by rw [← Array.getD_eq_getD_getElem?]; exact he t _ hv
  have h5 : a.tmps[u]?.getD undef = x := by rw [← Array.getD_eq_getD_getElem?]; exact he u _ hx
  have h6 : a.tmps[r]?.getD undef = y := by rw [← Array.getD_eq_getD_getElem?]; exact he r _ hy
  simp [results, hr, h3, h5, h6, asAddr, loadVar, run_isAgg hT, run_sizeOf hs, h1]
end
end Go.Sx
end
