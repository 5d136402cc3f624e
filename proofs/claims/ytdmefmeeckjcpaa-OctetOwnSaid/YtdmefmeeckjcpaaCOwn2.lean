/- Texts of mine, put together (no statement stands here). -/
import Derived.Test.YtdmefmeeckjcpaaCOwn1
import Derived.Scope
import Derived.RangeFuncNested
import Derived.OrdersIn
import Derived.RangeFuncLeaves
import Derived.Shelf.Abstract
section
namespace Go.Sx
open Go.RowKit
set_option linter.unusedVariables false
set_option linter.unusedSimpArgs false
section
variable {P : Program} {ops : Array Oper} {Q : Exit → Act → World → Prop} {w0 : World} {N : Fr} {l : List Oper} {env : Env} {hp : List Item} {o : Oper}
theorem wl_ownForm {i base E sz n : Nat} {v : Value} {xs : List Value} (hi : hp[i]? = some (.own base E sz v n xs)) (k : ∀ A c, v = .slice A n c → n ≤ c → WL P ops Q w0 N l env hp) : WL P ops Q w0 N l env hp := by
  intro a w h
  have hown : w.ownsRow base E sz v n xs := h.heap.get hi
  rcases hown.2 with ⟨e, e0⟩ | ⟨g, cap, cur, e, hg, hh, hn, r⟩
  · exact k none 0 (by rw [e, e0]) (by omega) a w h
  · exact k _ cap e hn a w h
theorem own_le {w : World} {base E sz n : Nat} {v : Value} {xs : List Value} (h : w.ownsRow base E sz v n xs) : n ≤ maxLen := by
  rcases h.2 with ⟨e, e0⟩ | ⟨g, cap, cur, e, hg, hh, hn, hcap, hcs, htake⟩
  · rw [e0]; exact Nat.zero_le _
  · exact Nat.le_trans hn hcap
theorem wc_own {c : Code} {E sz : Nat} (k : WC P c Q w0 N env (.own 0 E sz (.slice none 0 0) 0 [] :: hp)) : WC P c Q w0 N env hp := fun a w h => k a w
  ⟨h.size, h.defers, h.env, ⟨h.heap.os, h.heap.tape, h.heap.output, h.heap.size, fun it hi => by
    rcases List.mem_cons.1 hi with rfl | hi
    · exact World.ownsRow_nil w 0 E sz
    · exact h.heap.ok it hi, fun it hi kk hk => by
    rcases List.mem_cons.1 hi with rfl | hi
    · cases hk
    · exact h.heap.bound it hi kk hk, List.pairwise_cons.2 ⟨fun it hi => .inr fun kk hk => (by cases hk), h.heap.apart⟩⟩⟩
theorem built_parts {E sz n : Nat} {ps : List (Nat × Value)} {cs : List Value} (hs : P.sizeIs E = some sz) (h0 : 0 < sz) (hz : ((P.info? E).bind (·.zero)).map (fun z => z.cells.size) = some sz) (h1 : ∀ p ∈ ps, p.2.cells.size = sz) (hidx : ps.map (·.1) = List.range n) (hn0 : 0 < n) (hsm : n * sz ≤ 2 ^ 24) (hc : ps.flatMap (fun p => p.2.cells.toList) = cs) : P.builtSlice E n ps = some cs.toArray := by
  have hlen : ps.length = n := by
    have := congrArg List.length hidx
    simpa using this
  have e : ps = ((ps.map (·.2)).zipIdx 0).map fun x => (x.2, x.1) := by
    apply List.ext_getElem?
    intro i
    have hi := congrArg (fun l => l[i]?) hidx
    simp only [List.getElem?_map] at hi
    simp only [List.getElem?_map, List.getElem?_zipIdx]
    cases hp : ps[i]? with
    | none => simp
    | some p =>
      rw [hp] at hi
      have hlt : i < ps.length := (List.getElem?_eq_some_iff.1 hp).1
      rw [List.getElem?_range (by omega)] at hi
      simp only [Option.map_some, Option.some.injEq] at hi
      simp only [Option.map_some, Nat.zero_add, Option.some.injEq]
      rw [← hi]
  rw [e]
  refine built_slice hs h0 hz (fun v hv => ?_) (by simp [hlen]) hn0 hsm ?_
  · obtain ⟨p, hp, rfl⟩ := List.mem_map.1 hv
    exact h1 p hp
  · rw [← hc, List.flatMap_map]
theorem built_one {E sz : Nat} {v : Value} {cs : List Value} (hs : P.sizeIs E = some sz) (h0 : 0 < sz) (hz : ((P.info? E).bind (·.zero)).map (fun z => z.cells.size) = some sz) (hsm : 1 * sz ≤ 2 ^ 24) (hc : v.cells = cs.toArray) (hl : cs.length = sz) : P.builtSlice E 1 [(0, v)] = some cs.toArray :=
  built_parts hs h0 hz (fun p hp => by obtain rfl := List.mem_singleton.1 hp; rw [hc]; simpa using hl) rfl (by decide) hsm (by simp [hc])
theorem HeapOK.at {w : World} {hp' : List Item} (h : HeapOK w0 hp w) (is : List Nat) (hn : is.Nodup) (he : is.map (fun i => hp[i]?) = hp'.map some) : HeapOK w0 hp' w := by
  have hget : ∀ (a : Nat) (x : Item), hp'[a]? = some x → ∃ i : Nat, is[a]? = some i ∧ hp[i]? = some x := by
    intro a x hx
    have := congrArg (fun l => l[a]?) he
    simp only [List.getElem?_map, hx, Option.map_some] at this
    cases hi : is[a]? with
    | none => rw [hi] at this; cases this
    | some i =>
      rw [hi] at this
      exact ⟨i, rfl, by simpa using this⟩
  have hmem : ∀ it ∈ hp', it ∈ hp := by
    intro it hi
    obtain ⟨a, ha, rfl⟩ := List.mem_iff_getElem.1 hi
    obtain ⟨i, _, h2⟩ := hget a _ (List.getElem?_eq_getElem ha)
    exact List.mem_of_getElem? h2
  refine ⟨h.os, h.tape, h.output, h.size, fun it hi => h.ok it (hmem it hi), fun it hi => h.bound it (hmem it hi), ?_⟩
  rw [List.pairwise_iff_getElem]
  intro a b ha hb hab
  obtain ⟨i, hi1, hi2⟩ := hget a _ (List.getElem?_eq_getElem ha)
  obtain ⟨j, hj1, hj2⟩ := hget b _ (List.getElem?_eq_getElem hb)
  obtain ⟨hia, hi3⟩ := List.getElem?_eq_some_iff.1 hi1
  obtain ⟨hjb, hj3⟩ := List.getElem?_eq_some_iff.1 hj1
  have hne : i ≠ j := by
    intro e
    have h1 := List.pairwise_iff_getElem.1 hn a b hia hjb hab
    exact h1 (by rw [hi3, hj3, e])
  obtain ⟨hi4, hi5⟩ := List.getElem?_eq_some_iff.1 hi2
  obtain ⟨hj4, hj5⟩ := List.getElem?_eq_some_iff.1 hj2
  have hap := List.pairwise_iff_getElem.1 h.apart
  rcases Nat.lt_or_ge i j with hij | hij
  · have := hap i j hi4 hj4 hij
    rw [hi5, hj5] at this
    exact this
  · have := hap j i hj4 hi4 (by omega)
    rw [hi5, hj5] at this
    exact this.symm
end
end Go.Sx
end
section
namespace Go.Sx
open Go.RowKit
set_option linter.unusedVariables false
set_option linter.unusedSimpArgs false
def YesM {ι : Type} (P : Program) (w0 : World) (v : ι → Value) (hp' : ι → List Item) : Result Go.Next → Prop
  | .ok (.value u) w' => ∃ x, u = v x ∧ HeapOK w0 (hp' x) w'
  | .ok .skip w' => ∃ x, undef = v x ∧ HeapOK w0 (hp' x) w'
  | .ok (.enter f args) w' => Calls P f args w' (fun e w'' => ∃ x, e = .returned (v x) ∧ HeapOK w0 (hp' x) w'')
  | _ => False
def OpE {ι : Type} (P : Program) (o : Oper) (env : Env) (w0 : World) (hp X : List Item) (v : ι → Value) (X' : ι → List Item) : Prop :=
  ∀ (R : List Item) (a : Act) (w : World), EnvOK env a → HeapOK w0 (X ++ (R ++ hp)) w → YesM P w0 v (fun x => X' x ++ (R ++ hp)) ((execOp a.eval o).run P w)
abbrev OpM {ι : Type} (P : Program) (o : Oper) (env : Env) (w0 : World) (hp : List Item) (v : ι → Value) (it : ι → Item) : Prop := OpE P o env w0 hp [] v (fun x => [it x])
theorem OpE.wp {ι : Type} {P : Program} {o : Oper} {env : Env} {w0 : World} {hp X R : List Item} {v : ι → Value} {X' : ι → List Item} (h : OpE P o env w0 hp X v X') {a : Act} {w : World} (he : EnvOK env a) (hh : HeapOK w0 (X ++ (R ++ hp)) w) {K : Act → World → Prop} {Q : Exit → Act → World → Prop}
    (k : ∀ x w', HeapOK w0 (X' x ++ (R ++ hp)) w' → K (a.put o.dst (v x)) w') : o.wp P a w K Q := by
  have := h R a w he hh
  unfold Oper.wp
  generalize (execOp a.eval o).run P w = r at this
  cases r with
  | halt x w' => exact this.elim
  | ok n w' =>
    cases n <;> try exact this.elim
    · obtain ⟨x, rfl, hb⟩ := this
      exact k x w' hb
    · obtain ⟨x, hx, hb⟩ := this
      rw [Oper.upon_skip, hx]
      exact k x w' hb
    · rw [Oper.upon_enter]
      refine Calls.mono this ?_
      rintro e w'' ⟨x, rfl, hb⟩
      exact k x w'' hb
section
variable {P : Program} {ops : Array Oper} {Q : Exit → Act → World → Prop} {w0 : World} {N : Fr} {l : List Oper} {env : Env} {hp : List Item} {o : Oper}
theorem OpE.any {ι : Type} {env' : Env} {X : List Item} {v : ι → Value} {X' : ι → List Item} (h : OpE P o env w0 hp X v X') (hsel : ∀ cs b, o.op ≠ .select cs b) (ha : ∀ t, .tmp t ∈ o.op.operands → look t env' = look t env) : OpE P o env' w0 hp X v X' := by
  classical
  intro R a w he hh
  let M := (env.map (·.1)).sum + a.tmps.size + 1
  have hM : M = (env.map (·.1)).sum + a.tmps.size + 1 := rfl
  let a2 : Act := { tmps := Array.ofFn (n := M) (fun t => if Operand.tmp t.1 ∈ o.op.operands then a.tmps.getD t.1 undef else (look t.1 env).getD undef), defers := [] }
  have hg : ∀ t, a2.tmps.getD t undef = if t < M then (if Operand.tmp t ∈ o.op.operands then a.tmps.getD t undef else (look t env).getD undef) else undef := by
    intro t
    by_cases ht : t < M
    · simp [a2, Array.getD_eq_getD_getElem?, ht]
    · simp [a2, Array.getD_eq_getD_getElem?, ht]
  have h2 : EnvOK env a2 := by
    intro t x hx
    have hm := look_mem hx
    have : t ≤ (env.map (·.1)).sum := sum_ge (List.mem_map.2 ⟨(t, x), hm, rfl⟩)
    rw [hg t, if_pos (by omega)]
    split
    · rename_i ho
      exact he t x (by rw [ha t ho]; exact hx)
    · rw [hx]; rfl
  have hev : execOp a2.eval o = execOp a.eval o := execOp_congr o hsel (fun x hx => by
    cases x with
    | tmp t =>
      show a2.tmps.getD t undef = a.tmps.getD t undef
      rw [hg t]
      by_cases ht : t < M
      · rw [if_pos ht, if_pos hx]
      · rw [if_neg ht]
        have : ¬ t < a.tmps.size := fun h => ht (Nat.lt_succ_of_le (Nat.le_trans (Nat.le_of_lt h) (Nat.le_add_left _ _)))
        simp [Array.getD_eq_getD_getElem?, this]
    | _ => rfl)
  have := h R a2 w h2 hh
  rw [hev] at this
  exact this
inductive ChainM (P : Program) (w0 : World) (hp : List Item) (ops : Array Oper) (M : List Nat) (N : Fr) : Nat → List Oper → Env → Env → Prop
  | nil (i : Nat) (env : Env) : ChainM P w0 hp ops M N i [] env []
  | part {i : Nat} {o : Oper} {l : List Oper} {env out : Env} {d : Nat} {v : Value} (hn : M.contains i = false) (h : Part P w0 hp ops o env d v) (k : ChainM P w0 hp ops M N (i + 1) l ((d, v) :: env) out) : ChainM P w0 hp ops M N i (o :: l) env ((d, v) :: out)
  | gap {i : Nat} {o : Oper} {l : List Oper} {env out : Env} (h : M.contains i = true) (k : ChainM P w0 hp ops M N (i + 1) l ((N.n, undef) :: env) out) : ChainM P w0 hp ops M N i (o :: l) env ((N.n, undef) :: out)
theorem ChainM.yield {M : List Nat} {i : Nat} {o : Oper} {l : List Oper} {env out : Env} {d : Nat} {v : Value} (hq : OpQ P o env w0 hp v) (hg : o.guard = none) (hd : o.dst = some d) (hn : M.contains i = false) (k : ChainM P w0 hp ops M N (i + 1) l ((d, v) :: env) out) : ChainM P w0 hp ops M N i (o :: l) env ((d, v) :: out) := .part hn ⟨hd, .inl ⟨hg, hq⟩⟩ k
theorem ChainM.want {M : List Nat} {i : Nat} {o : Oper} {l : List Oper} {env out : Env} {d j tj : Nat} {b : Bool} {v : Value} (hq : OpQ P o env w0 hp v) (hg : o.guard = some (j, b)) (hj : (ops[j]?).bind (·.dst) = some tj) (hb : look tj env = some (.bool b)) (hd : o.dst = some d) (hn : M.contains i = false) (k : ChainM P w0 hp ops M N (i + 1) l ((d, v) :: env) out) : ChainM P w0 hp ops M N i (o :: l) env ((d, v) :: out) := .part hn ⟨hd, .inr (.inl ⟨_, _, _, hg, hj, hb, hq⟩)⟩ k
theorem ChainM.skip {M : List Nat} {i : Nat} {o : Oper} {l : List Oper} {env out : Env} {d j tj : Nat} {b : Bool} (hg : o.guard = some (j, !b)) (hj : (ops[j]?).bind (·.dst) = some tj) (hb : look tj env = some (.bool b)) (hd : o.dst = some d) (hn : M.contains i = false) (k : ChainM P w0 hp ops M N (i + 1) l ((d, undef) :: env) out) : ChainM P w0 hp ops M N i (o :: l) env ((d, undef) :: out) := .part hn ⟨hd, .inr (.inr ⟨_, _, _, _, hg, hj, .inl (by rw [Bool.not_not]), hb, rfl⟩)⟩ k
def pickL (is : List Nat) (hp : List Item) : List Item := is.filterMap (fun i => hp[i]?)
theorem HeapOK.pick {w : World} (h : HeapOK w0 hp w) (is : List Nat) (hn : is.Nodup) (hl : is.all (fun i => decide (i < hp.length)) = true) : HeapOK w0 (pickL is hp) w := by
  refine h.at is hn ?_
  unfold pickL
  clear hn
  induction is with
  | nil => rfl
  | cons i is ih =>
    simp only [List.all_cons, Bool.and_eq_true, decide_eq_true_eq] at hl
    rw [List.map_cons, List.filterMap_cons, List.getElem?_eq_getElem hl.1, List.map_cons, ← ih hl.2]
end
end Go.Sx
end
section
namespace Go.Sx
open Go.RowKit
set_option linter.unusedVariables false
set_option linter.unusedSimpArgs false
def gset {ι : Type} (X : Nat → ι) (p : Nat) (x : ι) : Nat → ι := fun q => bif Nat.beq q p then x else X q
theorem gset_self {ι : Type} (X : Nat → ι) (p : Nat) (x : ι) : gset X p x p = x := by simp [gset]
structure Sp (ι : Type) where
  d : Option Nat
  v : (Nat → ι) → Value
  U : List Nat
  R : List Nat
  D : List Nat
def tk {ι : Type} : List (Nat × ((Nat → ι) → List Item)) → Nat → (Nat → ι) → List Item
  | [], _, _ => []
  | (q, f) :: r, p, X => bif Nat.beq p q then f X else tk r p X
def tf {ι : Type} (TL : List (Nat × ((Nat → ι) → List Item))) (m : Nat) (hp : List Item) (X : Nat → ι) (p : Nat) : List Item := bif Nat.blt p m then tk TL p X else (hp[p - m]?).toList
def Sp.bind {ι : Type} (s : Sp ι) (X : Nat → ι) : Env := match s.d with | some d => [(d, s.v X)] | none => []
def LocG {ι : Type} (i : Nat) (D : List Nat) (v : (Nat → ι) → Value) (T : (Nat → ι) → List Item) : Prop := ∀ X X' : Nat → ι, X i = X' i → (∀ q ∈ D, X q = X' q) → v X = v X' ∧ T X = T X'
def SpE {ι : Type} (P : Program) (w0 : World) (hp : List Item) (m ny : Nat) (TL : List (Nat × ((Nat → ι) → List Item))) (i : Nat) (o : Oper) (E : (Nat → ι) → Env) (v : (Nat → ι) → Value) (U R : List Nat) : Prop :=
  ∀ X, OpE P o (E X) w0 (hp.drop ny) ((U ++ R).flatMap (tf TL m hp X)) (fun x => v (gset X i x)) (fun x => tk TL i (gset X i x) ++ R.flatMap (tf TL m hp X))
inductive ChainG {ι : Type} (P : Program) (w0 : World) (hp : List Item) (m ny : Nat) (ops : Array Oper) (TL : List (Nat × ((Nat → ι) → List Item))) : Nat → List Oper → ((Nat → ι) → Env) → List (Sp ι) → ((Nat → ι) → Env) → Prop
  | nil (i : Nat) (E : (Nat → ι) → Env) : ChainG P w0 hp m ny ops TL i [] E [] E
  | op {i : Nat} {o : Oper} {l : List Oper} {E Ef : (Nat → ι) → Env} {S : List (Sp ι)} {d : Nat} (v : (Nat → ι) → Value) (U R D : List Nat)
      (hq : SpE P w0 hp m ny TL i o E v U R) (hg : o.guard = none) (hd : o.dst = some d) (hl : LocG i D v (tk TL i))
      (k : ChainG P w0 hp m ny ops TL (i + 1) l (fun X => (d, v X) :: E X) S Ef) : ChainG P w0 hp m ny ops TL i (o :: l) E (⟨some d, v, U, R, D⟩ :: S) Ef
  | eff {i : Nat} {o : Oper} {l : List Oper} {E Ef : (Nat → ι) → Env} {S : List (Sp ι)} (v : (Nat → ι) → Value) (U R D : List Nat)
      (hq : SpE P w0 hp m ny TL i o E v U R) (hg : o.guard = none) (hd : o.dst = none) (hl : LocG i D v (tk TL i))
      (k : ChainG P w0 hp m ny ops TL (i + 1) l E S Ef) : ChainG P w0 hp m ny ops TL i (o :: l) E (⟨none, v, U, R, D⟩ :: S) Ef
  | want {i : Nat} {o : Oper} {l : List Oper} {E Ef : (Nat → ι) → Env} {S : List (Sp ι)} {d j tj : Nat} {b : Bool} (v : (Nat → ι) → Value) (U R D : List Nat)
      (hq : SpE P w0 hp m ny TL i o E v U R) (hg : o.guard = some (j, b)) (hj : (ops[j]?).bind (·.dst) = some tj) (hb : ∀ X, look tj (E X) = some (.bool b)) (hd : o.dst = some d) (hl : LocG i D v (tk TL i))
      (k : ChainG P w0 hp m ny ops TL (i + 1) l (fun X => (d, v X) :: E X) S Ef) : ChainG P w0 hp m ny ops TL i (o :: l) E (⟨some d, v, U, R, D⟩ :: S) Ef
  | skip {i : Nat} {o : Oper} {l : List Oper} {E Ef : (Nat → ι) → Env} {S : List (Sp ι)} {d j tj : Nat} {b : Bool} (hg : o.guard = some (j, !b)) (hj : (ops[j]?).bind (·.dst) = some tj) (hb : ∀ X, look tj (E X) = some (.bool b)) (hd : o.dst = some d) (ht : ∀ X, tk TL i X = [])
      (k : ChainG P w0 hp m ny ops TL (i + 1) l (fun X => (d, undef) :: E X) S Ef) : ChainG P w0 hp m ny ops TL i (o :: l) E (⟨some d, fun _ => undef, [], [], []⟩ :: S) Ef
  | skipU {i : Nat} {o : Oper} {l : List Oper} {E Ef : (Nat → ι) → Env} {S : List (Sp ι)} {d j tj : Nat} {b : Bool} (hg : o.guard = some (j, b)) (hj : (ops[j]?).bind (·.dst) = some tj) (hb : ∀ X, look tj (E X) = some undef) (hd : o.dst = some d) (ht : ∀ X, tk TL i X = [])
      (k : ChainG P w0 hp m ny ops TL (i + 1) l (fun X => (d, undef) :: E X) S Ef) : ChainG P w0 hp m ny ops TL i (o :: l) E (⟨some d, fun _ => undef, [], [], []⟩ :: S) Ef
section
variable {P : Program} {ops : Array Oper} {Q : Exit → Act → World → Prop} {w0 : World} {N : Fr} {l : List Oper} {env : Env} {hp : List Item} {o : Oper} {m ny : Nat}
theorem OpQ.toE {ι : Type} {v : Value} {Z : List Item} (h : OpQ P o env w0 (Z ++ hp) v) [Nonempty ι] : OpE (ι := ι) P o env w0 hp Z (fun _ => v) (fun _ => Z) := by
  intro R a w he hh
  have := h a w he (hh.sub (List.Sublist.append_left (List.sublist_append_right _ _) Z))
  generalize (execOp a.eval o).run P w = r at this
  cases r with
  | halt x w' => exact this.elim
  | ok n w' =>
    cases n <;> try exact this.elim
    · obtain ⟨rfl, hb⟩ := this
      exact ⟨Classical.choice ‹_›, rfl, hh.below hb⟩
    · exact Calls.mono this (fun e w'' ⟨h1, h2⟩ => ⟨Classical.choice ‹_›, h1, hh.below h2⟩)
theorem OpE.gmap {ι κ : Type} {X : List Item} {v : κ → Value} {X' : κ → List Item} (h : OpE P o env w0 hp X v X') (f : ι → κ) (g : κ → ι) (hfg : ∀ k, f (g k) = k) : OpE P o env w0 hp X (fun x => v (f x)) (fun x => X' (f x)) := by
  intro R a w he hh
  have := h R a w he hh
  generalize (execOp a.eval o).run P w = r at this
  cases r with
  | halt x w' => exact this.elim
  | ok n w' =>
    cases n <;> try exact this.elim
    · obtain ⟨x, h1, h2⟩ := this
      exact ⟨g x, by simp only [hfg]; exact h1, by simp only [hfg]; exact h2⟩
    · obtain ⟨x, h1, h2⟩ := this
      exact ⟨g x, by simp only [hfg]; exact h1, by simp only [hfg]; exact h2⟩
    · exact Calls.mono this (fun e w'' ⟨x, h1, h2⟩ => ⟨g x, by simp only [hfg]; exact h1, by simp only [hfg]; exact h2⟩)
variable {ι : Type} {TL : List (Nat × ((Nat → ι) → List Item))} {i : Nat} {E Ef : (Nat → ι) → Env} {S : List (Sp ι)}
theorem ChainG.yield [Nonempty ι] {d : Nat} {v : (Nat → ι) → Value} (R D : List Nat) (hq : ∀ X, OpQ P o (E X) w0 (R.flatMap (tf TL m hp X) ++ hp.drop ny) (v X)) (hg : o.guard = none) (hd : o.dst = some d) (ht : ∀ X, tk TL i X = []) (hv : ∀ X x, v (gset X i x) = v X) (hl : LocG i D v (fun _ => []))
    (k : ChainG P w0 hp m ny ops TL (i + 1) l (fun X => (d, v X) :: E X) S Ef) : ChainG P w0 hp m ny ops TL i (o :: l) E (⟨some d, v, [], R, D⟩ :: S) Ef :=
  .op v [] R D (fun X => by
    have h := (hq X).toE (ι := ι)
    simp only [hv, ht]
    exact h) hg hd (fun X X' h1 h2 => ⟨(hl X X' h1 h2).1, by rw [ht, ht]⟩) k
theorem ChainG.store [Nonempty ι] {T : (Nat → ι) → List Item} (U D : List Nat) (hq : ∀ X, OpE (ι := Unit) P o (E X) w0 (hp.drop ny) (U.flatMap (tf TL m hp X)) (fun _ => undef) (fun _ => T X)) (hg : o.guard = none) (hd : o.dst = none) (ht : ∀ X, tk TL i X = T X) (hT : ∀ X x, T (gset X i x) = T X) (hl : LocG i D (fun _ => undef) (tk TL i))
    (k : ChainG P w0 hp m ny ops TL (i + 1) l E S Ef) : ChainG P w0 hp m ny ops TL i (o :: l) E (⟨none, fun _ => undef, U, [], D⟩ :: S) Ef :=
  .eff (fun _ => undef) U [] D (fun X => by
    have h := (hq X).gmap (ι := ι) (fun _ => ()) (fun _ => Classical.choice ‹_›) (fun _ => rfl)
    simp only [ht, hT, List.append_nil, List.flatMap_nil]
    exact h) hg hd (fun X X' h1 h2 => ⟨rfl, (hl X X' h1 h2).2⟩) k
theorem ChainG.ope {d : Nat} (v : (Nat → ι) → Value) (U D : List Nat) (hq : ∀ X, OpE P o (E X) w0 (hp.drop ny) (U.flatMap (tf TL m hp X)) (fun x => v (gset X i x)) (fun x => tk TL i (gset X i x))) (hg : o.guard = none) (hd : o.dst = some d) (hl : LocG i D v (tk TL i))
    (k : ChainG P w0 hp m ny ops TL (i + 1) l (fun X => (d, v X) :: E X) S Ef) : ChainG P w0 hp m ny ops TL i (o :: l) E (⟨some d, v, U, [], D⟩ :: S) Ef :=
  .op v U [] D (fun X => by
    simp only [List.append_nil, List.flatMap_nil]
    exact hq X) hg hd hl k
end
end Go.Sx
end
section
namespace Go.Sx
open Go.RowKit
set_option linter.unusedVariables false
set_option linter.unusedSimpArgs false
section
variable {P : Program} {ops : Array Oper} {Q : Exit → Act → World → Prop} {w0 : World} {N : Fr} {env : Env} {hp : List Item} {o : Oper} {l n : Nat}
def Item.solid (w0 : World) : Item → Prop
  | .blk _ _ _ => True
  | .own _ _ _ _ _ _ => True
  | .obj _ _ => False
  | .ro F _ => ∀ k, F k → k < w0.heap.size
  | .rd _ _ => True
  | .fam _ => True
theorem solid_foot {w W : World} {it : Item} (hs : it.solid w0) (hk : it.ok W) {k : Nat} (hf : it.foot k) : k < w0.heap.size ∨ ∃ o : Obj, W.heap[k]? = some o ∧ o.isCells = true := by
  cases it with
  | blk b cs T => obtain rfl : k = b := hf; exact .inr ⟨_, hk, rfl⟩
  | obj b o => exact hs.elim
  | fam bs => obtain ⟨x, hx, rfl⟩ := hf; exact .inr ⟨_, hk.2 x hx, rfl⟩
  | ro F w => exact .inl (hs k hf)
  | rd A cs =>
    obtain ⟨hc, ad, rfl, rfl⟩ := hf
    rcases hk with hk | ⟨_, e, hk⟩
    · exact absurd hk hc
    · cases e
      obtain ⟨c, r, rfl⟩ : ∃ c r, cs = c :: r := by cases cs with | nil => exact absurd rfl hc | cons c r => exact ⟨c, r, rfl⟩
      have := hk 0 c rfl
      rw [add_zero] at this
      unfold World.cell? at this
      split at this
      · rename_i cc e f ho; exact .inr ⟨_, ho, rfl⟩
      · cases this
  | own base e size v n xs =>
    rcases hk.2 with ⟨rfl, _⟩ | ⟨g, cap, cur, rfl, hg, hh, r⟩
    · cases hf
    · cases hf; exact .inr ⟨_, hh, rfl⟩
theorem HeapOK.grown {W W' : World} {row : Option Nat} {B : Nat} (h : HeapOK w0 hp W) (hs : ∀ it ∈ hp, it.solid w0) (hB : w0.heap.size ≤ B) (hg : W.grownBy W' row) (hr : ∀ r, row = some r → B ≤ r ∧ ∃ o : Obj, W.heap[r]? = some o ∧ o.isCells = false) : HeapOK w0 hp W' where
  os := hg.os.trans h.os
  tape := hg.tape.trans h.tape
  output := hg.output.trans h.output
  size := Nat.le_trans h.size hg.size
  ok := fun it hi => Item.ok_move (h.ok it hi) (fun k hk => hg.block k (h.bound it hi k hk) (fun e => by
    obtain ⟨h1, o, ho, hc⟩ := hr k e.symm
    rcases solid_foot (w := W) (hs it hi) (h.ok it hi) hk with h2 | ⟨o', ho', hc'⟩
    · omega
    · rw [ho] at ho'; cases ho'; rw [hc] at hc'; cases hc'))
  bound := fun it hi k hk => Nat.lt_of_lt_of_le (h.bound it hi k hk) hg.size
  apart := h.apart
def rest (W : World) (hp : List Item) : Item := .ro (fun k => k < W.heap.size ∧ ∀ it ∈ hp, ¬ it.foot k) W
end
end Go.Sx
end
