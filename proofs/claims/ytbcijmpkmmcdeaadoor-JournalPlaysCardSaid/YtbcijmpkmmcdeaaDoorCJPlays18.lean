/- Texts of mine, put together (no statement stands here). -/
import Derived.Test.YtbcijmpkmmcdeaaDoorCJPlays15
section
namespace Go.Sx.KD
open Go.RowKit Go.Sx
set_option linter.unusedVariables false
set_option linter.unusedSimpArgs false
def OpE {ι : Type} (P : Program) (o : Oper) (env : Env) (w0 : World) (hp X : List Item) (v : ι → Value) (X' : ι → List Item) : Prop :=
  ∀ (R : List Item), R.all Item.sh = true → ∀ (a : Act) (w : World), EnvOK env a → HeapOK w0 (X ++ (R ++ hp)) w → YesM P w0 v (fun x => X' x ++ (R ++ hp)) ((execOp a.eval o).run P w)
theorem OpE.wp {ι : Type} {P : Program} {o : Oper} {env : Env} {w0 : World} {hp X R : List Item} {v : ι → Value} {X' : ι → List Item} (h : OpE P o env w0 hp X v X') {a : Act} {w : World} (hR : R.all Item.sh = true) (he : EnvOK env a) (hh : HeapOK w0 (X ++ (R ++ hp)) w) {K : Act → World → Prop} {Q : Exit → Act → World → Prop}
    (k : ∀ x w', HeapOK w0 (X' x ++ (R ++ hp)) w' → K (a.put o.dst (v x)) w') : o.wp P a w K Q := by
  have := h R hR a w he hh
  unfold Oper.wp
  generalize (execOp a.eval o).run P w = r at this
  cases r with
  | halt x w' => exact this.elim
  | ok n w' =>
    cases n <;> try exact this.elim
    · obtain ⟨x, rfl, hb⟩ := this
      exact k x w' hb
    · obtain ⟨x, hx, hb⟩ := this
      rw [Oper.upon_skip, hx]
      exact k x w' hb
    · rw [Oper.upon_enter]
      refine Calls.mono this ?_
      rintro e w'' ⟨x, rfl, hb⟩
      exact k x w'' hb
section
variable {P : Program} {ops : Array Oper} {Q : Exit → Act → World → Prop} {w0 : World} {N : Fr} {l : List Oper} {env : Env} {hp : List Item} {o : Oper}
theorem OpE.any {ι : Type} {env' : Env} {X : List Item} {v : ι → Value} {X' : ι → List Item} (h : OpE P o env w0 hp X v X') (hsel : ∀ cs b, o.op ≠ .select cs b) (ha : ∀ t, .tmp t ∈ o.op.operands → look t env' = look t env) : OpE P o env' w0 hp X v X' := by
  classical
  intro R hR a w he hh
  let M := (env.map (·.1)).sum + a.tmps.size + 1
  have hM : M = (env.map (·.1)).sum + a.tmps.size + 1 := rfl
  let a2 : Act := { tmps := Array.ofFn (n := M) (fun t => if Operand.tmp t.1 ∈ o.op.operands then a.tmps.getD t.1 undef else (look t.1 env).getD undef), defers := [] }
  have hg : ∀ t, a2.tmps.getD t undef = if t < M then (if Operand.tmp t ∈ o.op.operands then a.tmps.getD t undef else (look t env).getD undef) else undef := by
    intro t
    by_cases ht : t < M
    · simp [a2, Array.getD_eq_getD_getElem?, ht]
    · simp [a2, Array.getD_eq_getD_getElem?, ht]
  have h2 : EnvOK env a2 := by
    intro t x hx
    have hm := look_mem hx
    have : t ≤ (env.map (·.1)).sum := sum_ge (List.mem_map.2 ⟨(t, x), hm, rfl⟩)
    rw [hg t, if_pos (by omega)]
    split
    · rename_i ho
      exact he t x (by rw [ha t ho]; exact hx)
    · rw [hx]; rfl
  have hev : execOp a2.eval o = execOp a.eval o := execOp_congr o hsel (fun x hx => by
    cases x with
    | tmp t =>
      show a2.tmps.getD t undef = a.tmps.getD t undef
      rw [hg t]
      by_cases ht : t < M
      · rw [if_pos ht, if_pos hx]
      · rw [if_neg ht]
        have : ¬ t < a.tmps.size := fun h => ht (Nat.lt_succ_of_le (Nat.le_trans (Nat.le_of_lt h) (Nat.le_add_left _ _)))
        simp [Array.getD_eq_getD_getElem?, this]
    | _ => rfl)
  have := h R hR a2 w h2 hh
  rw [hev] at this
  exact this
inductive ChainM (P : Program) (w0 : World) (hp : List Item) (ops : Array Oper) (M : List Nat) (N : Fr) : Nat → List Oper → Env → Env → Prop
  | nil (i : Nat) (env : Env) : ChainM P w0 hp ops M N i [] env []
  | part {i : Nat} {o : Oper} {l : List Oper} {env out : Env} {d : Nat} {v : Value} (hn : M.contains i = false) (h : Part P w0 hp ops o env d v) (k : ChainM P w0 hp ops M N (i + 1) l ((d, v) :: env) out) : ChainM P w0 hp ops M N i (o :: l) env ((d, v) :: out)
  | gap {i : Nat} {o : Oper} {l : List Oper} {env out : Env} (h : M.contains i = true) (k : ChainM P w0 hp ops M N (i + 1) l ((N.n, undef) :: env) out) : ChainM P w0 hp ops M N i (o :: l) env ((N.n, undef) :: out)
end
def SpE {ι : Type} (P : Program) (w0 : World) (hp : List Item) (m ny : Nat) (TL : List (Nat × ((Nat → ι) → List Item))) (i : Nat) (o : Oper) (E : (Nat → ι) → Env) (v : (Nat → ι) → Value) (U R : List Nat) : Prop :=
  ∀ X, OpE P o (E X) w0 (hp.drop ny) ((U ++ R).flatMap (tf TL m hp X)) (fun x => v (gset X i x)) (fun x => tk TL i (gset X i x) ++ R.flatMap (tf TL m hp X))
inductive ChainG {ι : Type} (P : Program) (w0 : World) (hp : List Item) (m ny : Nat) (ops : Array Oper) (TL : List (Nat × ((Nat → ι) → List Item))) : Nat → List Oper → ((Nat → ι) → Env) → List (Sp ι) → ((Nat → ι) → Env) → Prop
  | nil (i : Nat) (E : (Nat → ι) → Env) : ChainG P w0 hp m ny ops TL i [] E [] E
  | op {i : Nat} {o : Oper} {l : List Oper} {E Ef : (Nat → ι) → Env} {S : List (Sp ι)} {d : Nat} (v : (Nat → ι) → Value) (U R D : List Nat)
      (hq : SpE P w0 hp m ny TL i o E v U R) (hg : o.guard = none) (hd : o.dst = some d) (hl : LocG i D v (tk TL i))
      (k : ChainG P w0 hp m ny ops TL (i + 1) l (fun X => (d, v X) :: E X) S Ef) : ChainG P w0 hp m ny ops TL i (o :: l) E (⟨some d, v, U, R, D⟩ :: S) Ef
  | eff {i : Nat} {o : Oper} {l : List Oper} {E Ef : (Nat → ι) → Env} {S : List (Sp ι)} (v : (Nat → ι) → Value) (U R D : List Nat)
      (hq : SpE P w0 hp m ny TL i o E v U R) (hg : o.guard = none) (hd : o.dst = none) (hl : LocG i D v (tk TL i))
      (k : ChainG P w0 hp m ny ops TL (i + 1) l E S Ef) : ChainG P w0 hp m ny ops TL i (o :: l) E (⟨none, v, U, R, D⟩ :: S) Ef
  | want {i : Nat} {o : Oper} {l : List Oper} {E Ef : (Nat → ι) → Env} {S : List (Sp ι)} {d j tj : Nat} {b : Bool} (v : (Nat → ι) → Value) (U R D : List Nat)
      (hq : SpE P w0 hp m ny TL i o E v U R) (hg : o.guard = some (j, b)) (hj : (ops[j]?).bind (·.dst) = some tj) (hb : ∀ X, look tj (E X) = some (.bool b)) (hd : o.dst = some d) (hl : LocG i D v (tk TL i))
      (k : ChainG P w0 hp m ny ops TL (i + 1) l (fun X => (d, v X) :: E X) S Ef) : ChainG P w0 hp m ny ops TL i (o :: l) E (⟨some d, v, U, R, D⟩ :: S) Ef
  | skip {i : Nat} {o : Oper} {l : List Oper} {E Ef : (Nat → ι) → Env} {S : List (Sp ι)} {d j tj : Nat} {b : Bool} (hg : o.guard = some (j, !b)) (hj : (ops[j]?).bind (·.dst) = some tj) (hb : ∀ X, look tj (E X) = some (.bool b)) (hd : o.dst = some d) (ht : ∀ X, tk TL i X = [])
      (k : ChainG P w0 hp m ny ops TL (i + 1) l (fun X => (d, undef) :: E X) S Ef) : ChainG P w0 hp m ny ops TL i (o :: l) E (⟨some d, fun _ => undef, [], [], []⟩ :: S) Ef
  | skipU {i : Nat} {o : Oper} {l : List Oper} {E Ef : (Nat → ι) → Env} {S : List (Sp ι)} {d j tj : Nat} {b : Bool} (hg : o.guard = some (j, b)) (hj : (ops[j]?).bind (·.dst) = some tj) (hb : ∀ X, look tj (E X) = some undef) (hd : o.dst = some d) (ht : ∀ X, tk TL i X = [])
      (k : ChainG P w0 hp m ny ops TL (i + 1) l (fun X => (d, undef) :: E X) S Ef) : ChainG P w0 hp m ny ops TL i (o :: l) E (⟨some d, fun _ => undef, [], [], []⟩ :: S) Ef
theorem unwanted_of {ops : Array Oper} {o : Oper} {a : Act} {j tj : Nat} {b : Bool} {x : Value} (hg : o.guard = some (j, b)) (hj : (ops[j]?).bind (·.dst) = some tj) (hx : x = .bool (!b) ∨ x = undef) (h1 : a.tmps.getD tj undef = x) : Region.wanted o (yielded ops a.tmps) = false := by
  rcases hx with rfl | rfl
  · rw [wanted_of hg hj h1]; cases b <;> rfl
  · have h2 : a.tmps[tj]?.getD undef = undef := by rw [← Array.getD_eq_getD_getElem?]; exact h1
    simp only [Region.wanted, hg, yielded, hj]
    cases hx : a.tmps[tj]? with
    | none => simp [hx]
    | some x => rw [hx] at h2; simp at h2; subst h2; simp [hx, undef]
def PartG {ι : Type} (P : Program) (w0 : World) (hp : List Item) (m ny : Nat) (ops : Array Oper) (TL : List (Nat × ((Nat → ι) → List Item))) (i : Nat) (o : Oper) (s : Sp ι) (E : (Nat → ι) → Env) : Prop :=
  (o.guard = none ∧ SpE P w0 hp m ny TL i o E s.v s.U s.R) ∨ (∃ j tj b, o.guard = some (j, b) ∧ (ops[j]?).bind (·.dst) = some tj ∧ (∀ X, look tj (E X) = some (.bool b)) ∧ SpE P w0 hp m ny TL i o E s.v s.U s.R) ∨
  (∃ j tj b x, o.guard = some (j, b) ∧ (ops[j]?).bind (·.dst) = some tj ∧ (x = .bool (!b) ∨ x = undef) ∧ (∀ X, look tj (E X) = some x) ∧ (∀ X, s.v X = undef) ∧ s.U = [] ∧ s.R = [] ∧ ∀ X, tk TL i X = [])
section
variable {P : Program} {ops : Array Oper} {Q : Exit → Act → World → Prop} {w0 : World} {N : Fr} {l : List Oper} {env : Env} {hp : List Item} {o : Oper} {m ny : Nat}
theorem OpQ.toE {ι : Type} {v : Value} {Z : List Item} (h : OpQ P o env w0 (Z ++ hp) v) [Nonempty ι] : OpE (ι := ι) P o env w0 hp Z (fun _ => v) (fun _ => Z) := by
  intro R hR a w he hh
  have := h a w he (hh.sub (List.Sublist.append_left (List.sublist_append_right _ _) Z))
  generalize (execOp a.eval o).run P w = r at this
  cases r with
  | halt x w' => exact this.elim
  | ok n w' =>
    cases n <;> try exact this.elim
    · obtain ⟨rfl, hb⟩ := this
      exact ⟨Classical.choice ‹_›, rfl, hh.below hb⟩
    · exact Calls.mono this (fun e w'' ⟨h1, h2⟩ => ⟨Classical.choice ‹_›, h1, hh.below h2⟩)
theorem OpE.gmap {ι κ : Type} {X : List Item} {v : κ → Value} {X' : κ → List Item} (h : OpE P o env w0 hp X v X') (f : ι → κ) (g : κ → ι) (hfg : ∀ k, f (g k) = k) : OpE P o env w0 hp X (fun x => v (f x)) (fun x => X' (f x)) := by
  intro R hR a w he hh
  have := h R hR a w he hh
  generalize (execOp a.eval o).run P w = r at this
  cases r with
  | halt x w' => exact this.elim
  | ok n w' =>
    cases n <;> try exact this.elim
    · obtain ⟨x, h1, h2⟩ := this
      exact ⟨g x, by simp only [hfg]; exact h1, by simp only [hfg]; exact h2⟩
    · obtain ⟨x, h1, h2⟩ := this
      exact ⟨g x, by simp only [hfg]; exact h1, by simp only [hfg]; exact h2⟩
    · exact Calls.mono this (fun e w'' ⟨x, h1, h2⟩ => ⟨g x, by simp only [hfg]; exact h1, by simp only [hfg]; exact h2⟩)
variable {ι : Type} {TL : List (Nat × ((Nat → ι) → List Item))} {i : Nat} {E Ef : (Nat → ι) → Env} {S : List (Sp ι)}
theorem ChainG.yield [Nonempty ι] {d : Nat} {v : (Nat → ι) → Value} (R D : List Nat) (hq : ∀ X, OpQ P o (E X) w0 (R.flatMap (tf TL m hp X) ++ hp.drop ny) (v X)) (hg : o.guard = none) (hd : o.dst = some d) (ht : ∀ X, tk TL i X = []) (hv : ∀ X x, v (gset X i x) = v X) (hl : LocG i D v (fun _ => []))
    (k : ChainG P w0 hp m ny ops TL (i + 1) l (fun X => (d, v X) :: E X) S Ef) : ChainG P w0 hp m ny ops TL i (o :: l) E (⟨some d, v, [], R, D⟩ :: S) Ef :=
  .op v [] R D (fun X => by
    have h := KD.OpQ.toE (ι := ι) (hq X)
    simp only [hv, ht]
    exact h) hg hd (fun X X' h1 h2 => ⟨(hl X X' h1 h2).1, by rw [ht, ht]⟩) k
theorem ChainG.wantq [Nonempty ι] {d j tj : Nat} {b : Bool} {v : (Nat → ι) → Value} (R D : List Nat) (hq : ∀ X, OpQ P o (E X) w0 (R.flatMap (tf TL m hp X) ++ hp.drop ny) (v X)) (hg : o.guard = some (j, b)) (hj : (ops[j]?).bind (·.dst) = some tj) (hb : ∀ X, look tj (E X) = some (.bool b)) (hd : o.dst = some d) (ht : ∀ X, tk TL i X = []) (hv : ∀ X x, v (gset X i x) = v X) (hl : LocG i D v (fun _ => []))
    (k : ChainG P w0 hp m ny ops TL (i + 1) l (fun X => (d, v X) :: E X) S Ef) : ChainG P w0 hp m ny ops TL i (o :: l) E (⟨some d, v, [], R, D⟩ :: S) Ef :=
  .want v [] R D (fun X => by
    have h := KD.OpQ.toE (ι := ι) (hq X)
    simp only [hv, ht]
    exact h) hg hj hb hd (fun X X' h1 h2 => ⟨(hl X X' h1 h2).1, by rw [ht, ht]⟩) k
theorem ChainG.store [Nonempty ι] {T : (Nat → ι) → List Item} (U D : List Nat) (hq : ∀ X, OpE (ι := Unit) P o (E X) w0 (hp.drop ny) (U.flatMap (tf TL m hp X)) (fun _ => undef) (fun _ => T X)) (hg : o.guard = none) (hd : o.dst = none) (ht : ∀ X, tk TL i X = T X) (hT : ∀ X x, T (gset X i x) = T X) (hl : LocG i D (fun _ => undef) (tk TL i))
    (k : ChainG P w0 hp m ny ops TL (i + 1) l E S Ef) : ChainG P w0 hp m ny ops TL i (o :: l) E (⟨none, fun _ => undef, U, [], D⟩ :: S) Ef :=
  .eff (fun _ => undef) U [] D (fun X => by
    have h := (hq X).gmap (ι := ι) (fun _ => ()) (fun _ => Classical.choice ‹_›) (fun _ => rfl)
    simp only [ht, hT, List.append_nil, List.flatMap_nil]
    exact h) hg hd (fun X X' h1 h2 => ⟨rfl, (hl X X' h1 h2).2⟩) k
theorem ChainG.ope {d : Nat} (v : (Nat → ι) → Value) (U D : List Nat) (hq : ∀ X, OpE P o (E X) w0 (hp.drop ny) (U.flatMap (tf TL m hp X)) (fun x => v (gset X i x)) (fun x => tk TL i (gset X i x))) (hg : o.guard = none) (hd : o.dst = some d) (hl : LocG i D v (tk TL i))
    (k : ChainG P w0 hp m ny ops TL (i + 1) l (fun X => (d, v X) :: E X) S Ef) : ChainG P w0 hp m ny ops TL i (o :: l) E (⟨some d, v, U, [], D⟩ :: S) Ef :=
  .op v U [] D (fun X => by
    simp only [List.append_nil, List.flatMap_nil]
    exact hq X) hg hd hl k
theorem ChainG.spec {n : Nat} (h : ChainG P w0 hp m ny ops TL n l E S Ef) :
    S.length = l.length ∧ (∀ X, Ef X = S.reverse.flatMap (·.bind X) ++ E X) ∧ ∀ i o, l[i]? = some o → ∃ s, S[i]? = some s ∧ o.dst = s.d ∧ LocG (n + i) s.D s.v (tk TL (n + i)) ∧ PartG P w0 hp m ny ops TL (n + i) o s (fun X => (S.take i).reverse.flatMap (·.bind X) ++ E X) := by
  have key : ∀ {n : Nat} {o : Oper} {l : List Oper} {E E' Ef : (Nat → ι) → Env} {S : List (Sp ι)} {s : Sp ι}, (∀ X, E' X = s.bind X ++ E X) → o.dst = s.d → LocG n s.D s.v (tk TL n) → PartG P w0 hp m ny ops TL n o s E →
      (S.length = l.length ∧ (∀ X, Ef X = S.reverse.flatMap (·.bind X) ++ E' X) ∧ ∀ i o, l[i]? = some o → ∃ s, S[i]? = some s ∧ o.dst = s.d ∧ LocG (n + 1 + i) s.D s.v (tk TL (n + 1 + i)) ∧ PartG P w0 hp m ny ops TL (n + 1 + i) o s (fun X => (S.take i).reverse.flatMap (·.bind X) ++ E' X)) →
      (s :: S).length = (o :: l).length ∧ (∀ X, Ef X = (s :: S).reverse.flatMap (·.bind X) ++ E X) ∧ ∀ i o', (o :: l)[i]? = some o' → ∃ s', (s :: S)[i]? = some s' ∧ o'.dst = s'.d ∧ LocG (n + i) s'.D s'.v (tk TL (n + i)) ∧ PartG P w0 hp m ny ops TL (n + i) o' s' (fun X => ((s :: S).take i).reverse.flatMap (·.bind X) ++ E X) := by
    intro n o l E E' Ef S s hE hd hl hp_ ⟨h1, h2, h3⟩
    refine ⟨by simp [h1], fun X => by rw [h2, hE]; simp, fun i o' hi => ?_⟩
    cases i with
    | zero =>
      cases hi
      refine ⟨s, rfl, hd, hl, ?_⟩
      simpa using hp_
    | succ i =>
      obtain ⟨s', a1, a2, a3, a4⟩ := h3 i o' (by simpa using hi)
      rw [Nat.add_assoc, Nat.add_comm 1 i] at a3 a4
      refine ⟨s', by simpa using a1, a2, a3, ?_⟩
      have : (fun X => ((s :: S).take (i + 1)).reverse.flatMap (·.bind X) ++ E X) = fun X => (S.take i).reverse.flatMap (·.bind X) ++ E' X := by
        funext X; rw [hE]; simp
      rw [this]
      exact a4
  induction h with
  | nil i E => exact ⟨rfl, fun X => rfl, fun i o h => by simp at h⟩
  | op v U R D hq hg hd hl k ih => exact key (fun X => rfl) hd hl (.inl ⟨hg, hq⟩) ih
  | eff v U R D hq hg hd hl k ih => exact key (fun X => rfl) hd hl (.inl ⟨hg, hq⟩) ih
  | want v U R D hq hg hj hb hd hl k ih => exact key (fun X => rfl) hd hl (.inr (.inl ⟨_, _, _, hg, hj, hb, hq⟩)) ih
  | skip hg hj hb hd ht k ih => exact key (fun X => rfl) hd (fun X X' _ _ => ⟨rfl, by rw [ht, ht]⟩) (.inr (.inr ⟨_, _, _, _, hg, hj, .inl (by rw [Bool.not_not]), hb, fun _ => rfl, rfl, rfl, ht⟩)) ih
  | skipU hg hj hb hd ht k ih => exact key (fun X => rfl) hd (fun X X' _ _ => ⟨rfl, by rw [ht, ht]⟩) (.inr (.inr ⟨_, _, _, _, hg, hj, .inr rfl, hb, fun _ => rfl, rfl, rfl, ht⟩)) ih
end
section
variable {P : Program} {ops : Array Oper} {Q : Exit → Act → World → Prop} {w0 : World} {N : Fr} {l : List Oper} {env : Env} {hp : List Item} {o : Oper}
structure UR where
  U : List Nat
  R : List Nat
  D : List Nat
def okG (ol : List Oper) (m ny N : Nat) (UD : List UR) : Bool :=
  let ms := masksOf ol []
  ((List.range ol.length).all fun i => ((ol[i]?).map fun o => o.after.all fun e => !Region.binds .any e || decide (e.on < i)).getD true) &&
  (((List.range m).all fun i => match ol[i]? with
    | some o => selB o && ((match o.dst with | some d => decide (d < N) | none => true) &&
      (((UD.getD i ⟨[], [], []⟩).D.all (fun q => decide (q < i) && (ms.getD i 0).testBit q)) &&
      ((((UD.getD i ⟨[], [], []⟩).U ++ (UD.getD i ⟨[], [], []⟩).R).all (fun q => (decide (q < i) && (ms.getD i 0).testBit q) || (decide (m ≤ q) && decide (q < m + ny)))) &&
      (decide ((UD.getD i ⟨[], [], []⟩).U ++ (UD.getD i ⟨[], [], []⟩).R).Nodup &&
      (List.range m).all fun j => match ol[j]? with
        | some o' => (match o'.dst with
          | some t => (decide (i = j) || o.dst != some t) && (!(o.looksAt ol.toArray).contains t || ((decide (j < i) && (ms.getD i 0).testBit j) || (decide (i < j) && (ms.getD j 0).testBit i)))
          | none => true) && ((UD.getD i ⟨[], [], []⟩).R.all fun q => !((UD.getD j ⟨[], [], []⟩).U.contains q) || (ms.getD j 0).testBit i)
        | none => false))))
    | none => false) &&
  (((List.range (ol.length - m)).all fun k => (List.range (m + k)).all fun j => (ms.getD (m + k) 0).testBit j) && decide ((UD.flatMap (·.U)).Nodup)))
structure OkG (ol : List Oper) (m ny N : Nat) (UD : List UR) : Prop where
  on : (List.range ol.toArray.size).all (fun i => ((ol.toArray[i]?).map fun o => o.after.all fun e => !Region.binds .any e || decide (e.on < i)).getD true) = true
  sel : ∀ i o, i < m → ol[i]? = some o → ∀ cs b, o.op ≠ .select cs b
  lt : ∀ i o d, i < m → ol[i]? = some o → o.dst = some d → d < N
  dep : ∀ i q, i < m → q ∈ (UD.getD i ⟨[], [], []⟩).D → q < i ∧ ((masksOf ol []).getD i 0).testBit q = true
  use : ∀ i q, i < m → q ∈ (UD.getD i ⟨[], [], []⟩).U ++ (UD.getD i ⟨[], [], []⟩).R → (q < i ∧ ((masksOf ol []).getD i 0).testBit q = true) ∨ (m ≤ q ∧ q < m + ny)
  und : ∀ i, i < m → ((UD.getD i ⟨[], [], []⟩).U ++ (UD.getD i ⟨[], [], []⟩).R).Nodup
  read : ∀ i j q, i < m → j < m → q ∈ (UD.getD i ⟨[], [], []⟩).R → q ∈ (UD.getD j ⟨[], [], []⟩).U → ((masksOf ol []).getD j 0).testBit i = true
  uniq : ∀ i j o o' d, i < m → j < m → ol[i]? = some o → ol[j]? = some o' → o.dst = some d → o'.dst = some d → i = j
  reads : ∀ i j o o' t, i < m → j < m → ol[i]? = some o → ol[j]? = some o' → o'.dst = some t → t ∈ o.looksAt ol.toArray → (j < i ∧ ((masksOf ol []).getD i 0).testBit j = true) ∨ (i < j ∧ ((masksOf ol []).getD j 0).testBit i = true)
  late : ∀ i j, m ≤ i → i < ol.length → j < i → ((masksOf ol []).getD i 0).testBit j = true
  m_le : ∀ i, i < m → ∃ o, ol[i]? = some o
  nodup : (UD.flatMap (·.U)).Nodup
theorem okG_spec {ol : List Oper} {m ny N : Nat} {UD : List UR} (h : okG ol m ny N UD = true) : OkG ol m ny N UD := by
  simp only [okG, Bool.and_eq_true, decide_eq_true_eq] at h
  obtain ⟨h1, h2, h3, h4⟩ := h
  have key : ∀ i o, i < m → ol[i]? = some o → selB o = true ∧ (∀ d, o.dst = some d → d < N) ∧ (∀ q, q ∈ (UD.getD i ⟨[], [], []⟩).D → q < i ∧ ((masksOf ol []).getD i 0).testBit q = true) ∧
      (∀ q, q ∈ (UD.getD i ⟨[], [], []⟩).U ++ (UD.getD i ⟨[], [], []⟩).R → (q < i ∧ ((masksOf ol []).getD i 0).testBit q = true) ∨ (m ≤ q ∧ q < m + ny)) ∧ ((UD.getD i ⟨[], [], []⟩).U ++ (UD.getD i ⟨[], [], []⟩).R).Nodup ∧
      ∀ j o', j < m → ol[j]? = some o' → (∀ q, q ∈ (UD.getD i ⟨[], [], []⟩).R → q ∈ (UD.getD j ⟨[], [], []⟩).U → ((masksOf ol []).getD j 0).testBit i = true) ∧
        ∀ t, o'.dst = some t → (i = j ∨ o.dst ≠ some t) ∧ (t ∈ o.looksAt ol.toArray → (j < i ∧ ((masksOf ol []).getD i 0).testBit j = true) ∨ (i < j ∧ ((masksOf ol []).getD j 0).testBit i = true)) := by
    intro i o hi ho
    have := List.all_eq_true.1 h2 i (List.mem_range.2 hi)
    rw [ho] at this
    simp only [Bool.and_eq_true, decide_eq_true_eq] at this
    obtain ⟨hs, hd, hdep, huse, hund, hj⟩ := this
    refine ⟨hs, fun d e => by rw [e] at hd; simpa using hd, fun q hq => ?_, fun q hq => ?_, hund, fun j o' hjm ho' => ?_⟩
    · have := List.all_eq_true.1 hdep q hq
      simpa [Bool.and_eq_true, decide_eq_true_eq] using this
    · have := List.all_eq_true.1 huse q hq
      simpa only [Bool.or_eq_true, Bool.and_eq_true, decide_eq_true_eq] using this
    · have := List.all_eq_true.1 hj j (List.mem_range.2 hjm)
      rw [ho'] at this
      simp only [Bool.and_eq_true] at this
      obtain ⟨ha, hb⟩ := this
      refine ⟨fun q hq hqU => ?_, fun t hd' => ?_⟩
      · have := List.all_eq_true.1 hb q hq
        rw [List.contains_iff_mem.2 hqU] at this
        simpa using this
      · simp only [hd', Bool.and_eq_true, Bool.or_eq_true, decide_eq_true_eq, bne_iff_ne, Bool.not_eq_true'] at ha
        refine ⟨ha.1, fun hl => ?_⟩
        rcases ha.2 with h6 | h6
        · rw [List.contains_iff_mem.2 hl] at h6; cases h6
        · exact h6
  have ex : ∀ i, i < m → ∃ o, ol[i]? = some o := by
    intro i hi
    have := List.all_eq_true.1 h2 i (List.mem_range.2 hi)
    cases ho : ol[i]? with
    | none => rw [ho] at this; cases this
    | some o => exact ⟨o, rfl⟩
  refine ⟨by simpa using h1, ?_, ?_, ?_, ?_, ?_, ?_, ?_, ?_, ?_, ex, h4⟩
  · intro i o hi ho cs b e
    have := (key i o hi ho).1
    simp [selB, e] at this
  · exact fun i o d hi ho hd => (key i o hi ho).2.1 d hd
  · intro i q hi hq
    obtain ⟨o, ho⟩ := ex i hi
    exact (key i o hi ho).2.2.1 q hq
  · intro i q hi hq
    obtain ⟨o, ho⟩ := ex i hi
    exact (key i o hi ho).2.2.2.1 q hq
  · intro i hi
    obtain ⟨o, ho⟩ := ex i hi
    exact (key i o hi ho).2.2.2.2.1
  · intro i j q hi hj hq hq'
    obtain ⟨o, ho⟩ := ex i hi
    obtain ⟨o', ho'⟩ := ex j hj
    exact ((key i o hi ho).2.2.2.2.2 j o' hj ho').1 q hq hq'
  · intro i j o o' d hi hj ho ho' hd hd'
    rcases (((key i o hi ho).2.2.2.2.2 j o' hj ho').2 d hd').1 with h | h
    · exact h
    · exact absurd hd h
  · exact fun i j o o' t hi hj ho ho' hd hl => (((key i o hi ho).2.2.2.2.2 j o' hj ho').2 t hd).2 hl
  · intro i j hi hl hj
    have := List.all_eq_true.1 h3 (i - m) (List.mem_range.2 (by omega))
    have := List.all_eq_true.1 this j (List.mem_range.2 (by omega))
    rwa [show m + (i - m) = i by omega] at this
theorem nodup_flat {α β : Type} {f : α → List β} : ∀ {l : List α}, (l.flatMap f).Nodup → (∀ (i : Nat) (x : α), l[i]? = some x → (f x).Nodup) ∧ ∀ (i j : Nat) (x y : α) (b : β), l[i]? = some x → l[j]? = some y → b ∈ f x → b ∈ f y → i = j
  | [], _ => ⟨fun i x h => by simp at h, fun i j x y b h => by simp at h⟩
  | x :: l, h => by
    rw [List.flatMap_cons, List.nodup_append] at h
    obtain ⟨h1, h2, h3⟩ := h
    obtain ⟨i1, i2⟩ := nodup_flat h2
    refine ⟨fun i y hy => ?_, fun i j y z b hy hz hb hb' => ?_⟩
    · cases i with
      | zero => cases hy; exact h1
      | succ i => exact i1 i y (by simpa using hy)
    · cases i with
      | zero =>
        cases hy
        cases j with
        | zero => rfl
        | succ j => exact absurd rfl (h3 b hb b (List.mem_flatMap.2 ⟨z, List.mem_of_getElem? (by simpa using hz), hb'⟩))
      | succ i =>
        cases j with
        | zero => cases hz; exact absurd rfl (h3 b hb' b (List.mem_flatMap.2 ⟨y, List.mem_of_getElem? (by simpa using hy), hb⟩))
        | succ j => rw [i2 i j y z b (by simpa using hy) (by simpa using hz) hb hb']
theorem take_pick {hp : List Item} {m : Nat} : ∀ (n : Nat), n ≤ hp.length → ((List.range n).map (m + ·)).flatMap (fun p => (hp[p - m]?).toList) = hp.take n
  | 0, _ => rfl
  | n + 1, h => by
    rw [List.range_succ, List.map_append, List.flatMap_append, take_pick n (by omega), List.take_add_one]
    simp
theorem any_drawK {ι : Type} [Nonempty ι] {ol : List Oper} {S : List (Sp ι)} {Ef : (Nat → ι) → Env} {hp0 : List Item} (m ny : Nat) (TL : List (Nat × ((Nat → ι) → List Item))) (UD : List UR) (hok : okG ol m ny N UD = true)
    (hTS : ∀ q X, (tk TL q X).all Item.sh = true) (hps : hp0.all Item.sh = true) (hc : ChainG P w0 hp0 m ny ol.toArray TL 0 (ol.take m) (fun _ => env) S Ef) (hUD : S.map (fun s => (⟨s.U, s.R, s.D⟩ : UR)) = UD) (hny : decide (ny ≤ hp0.length) = true)
    (L : (Nat → ι) → List Item) (hL : ∀ X, ((List.range (m + ny)).filter (fun q => !(UD.any (fun u => u.U.contains q)))).flatMap (tf TL m hp0 X) ++ hp0.drop ny = L X)
    (k : ∀ X : Nat → ι, WL P ol.toArray Q w0 N (ol.drop m) (Ef X) (L X)) : WA P ol Q w0 N env hp0 := by
  intro a w hh
  obtain ⟨hp, hhp⟩ : ∃ hp, hp = hp0.drop ny := ⟨_, rfl⟩
  have hny : ny ≤ hp0.length := by simpa using hny
  subst hUD
  have D := okG_spec hok
  obtain ⟨hlen, hEf, hspec⟩ := hc.spec
  have hml : m ≤ ol.length := by
    rcases Nat.eq_zero_or_pos m with h | h
    · omega
    · obtain ⟨o, ho⟩ := D.m_le (m - 1) (by omega)
      have := (List.getElem?_eq_some_iff.1 ho).1
      omega
  have hlen' : S.length = m := by rw [hlen, List.length_take]; omega
  have hget : ∀ i o, i < m → ol[i]? = some o → ∃ s, S[i]? = some s ∧ o.dst = s.d ∧ LocG i s.D s.v (tk TL i) ∧ PartG P w0 hp0 m ny ol.toArray TL i o s (fun X => (S.take i).reverse.flatMap (·.bind X) ++ env) := fun i o hi ho => by
    have := hspec i o (by rw [List.getElem?_take, if_pos hi]; exact ho)
    simpa only [Nat.zero_add] using this
  have hUDg : ∀ (i : Nat) (s : Sp ι), S[i]? = some s → (S.map (fun s => (⟨s.U, s.R, s.D⟩ : UR))).getD i ⟨[], [], []⟩ = ⟨s.U, s.R, s.D⟩ := fun i s hs => by
    rw [List.getD_eq_getElem?_getD, List.getElem?_map, hs]; rfl
  have hlt : ∀ (i : Nat) (s : Sp ι), S[i]? = some s → i < m := fun i s h => by have := (List.getElem?_eq_some_iff.1 h).1; omega
  have hdep : ∀ (i : Nat) (s : Sp ι) (q : Nat), S[i]? = some s → q ∈ s.D → q < i ∧ ((masksOf ol []).getD i 0).testBit q = true := fun i s q hs hq => D.dep i q (hlt i s hs) (by rw [hUDg i s hs]; exact hq)
  have huse : ∀ (i : Nat) (s : Sp ι) (q : Nat), S[i]? = some s → q ∈ s.U ++ s.R → (q < i ∧ ((masksOf ol []).getD i 0).testBit q = true) ∨ (m ≤ q ∧ q < m + ny) := fun i s q hs hq => D.use i q (hlt i s hs) (by rw [hUDg i s hs]; exact hq)
  have hURnd : ∀ (i : Nat) (s : Sp ι), S[i]? = some s → (s.U ++ s.R).Nodup := fun i s hs => by
    have := D.und i (hlt i s hs)
    rwa [hUDg i s hs] at this
  have hreadb : ∀ (i j : Nat) (s s' : Sp ι) (q : Nat), S[i]? = some s → S[j]? = some s' → q ∈ s.R → q ∈ s'.U → ((masksOf ol []).getD j 0).testBit i = true := fun i j s s' q hs hs' hq hq' => D.read i j q (hlt i s hs) (hlt j s' hs') (by rw [hUDg i s hs]; exact hq) (by rw [hUDg j s' hs']; exact hq')
  have hnd : (S.flatMap (·.U)).Nodup := by
    have := D.nodup
    rwa [List.flatMap_map] at this
  obtain ⟨hUnd, hUone⟩ := nodup_flat hnd
  have huniq : ∀ (i j : Nat) (s s' : Sp ι) (t : Nat), S[i]? = some s → S[j]? = some s' → s.d = some t → s'.d = some t → i = j := by
    intro i j s s' t hs hs' hd hd'
    have hi := hlt i s hs
    have hj := hlt j s' hs'
    obtain ⟨o, ho⟩ := D.m_le i hi
    obtain ⟨o', ho'⟩ := D.m_le j hj
    obtain ⟨s1, e1, e2, _⟩ := hget i o hi ho
    obtain ⟨s2, e3, e4, _⟩ := hget j o' hj ho'
    rw [hs] at e1; cases e1
    rw [hs'] at e3; cases e3
    exact D.uniq i j o o' t hi hj ho ho' (e2.trans hd) (e4.trans hd')
  have hloc : ∀ (i : Nat) (s : Sp ι), S[i]? = some s → LocG i s.D s.v (tk TL i) := by
    intro i s hs
    obtain ⟨o, ho⟩ := D.m_le i (hlt i s hs)
    obtain ⟨s1, e1, _, e2, _⟩ := hget i o (hlt i s hs) ho
    rw [hs] at e1; cases e1
    exact e2
  have hgood := masks_good ol ol [] rfl (fun i j h => by simp at h)
  let Dn (l : Array Bool) : Prop := ∀ i, (l.getD i false = true) → Afters ol (fun i => l.getD i false = true) i
  let dn (l : Array Bool) : List Nat := (List.range m).filter (fun q => l.getD q false)
  let bd (q : Nat) (X : Nat → ι) : Env := match S[q]? with | some s => s.bind X | none => []
  let Uq (p : Nat) : List Nat := match S[p]? with | some s => s.U | none => []
  let cm (l : Array Bool) (X : Nat → ι) : Env := (dn l).flatMap (fun q => bd q X)
  let us (l : Array Bool) (q : Nat) : Bool := (dn l).any (fun p => (Uq p).contains q)
  let av (l : Array Bool) : List Nat := (List.range (m + ny)).filter (fun q => decide (m ≤ q) || l.getD q false)
  let al (l : Array Bool) : List Nat := (av l).filter (fun q => !us l q)
  have memav : ∀ l q, q ∈ av l ↔ q < m + ny ∧ (m ≤ q ∨ l.getD q false = true) := fun l q => by
    show q ∈ List.filter _ _ ↔ _
    rw [List.mem_filter, List.mem_range, Bool.or_eq_true, decide_eq_true_eq]
  have memdn : ∀ l q, q ∈ dn l ↔ q < m ∧ l.getD q false = true := fun l q => by
    show q ∈ List.filter _ _ ↔ _
    rw [List.mem_filter, List.mem_range]
  have memcm : ∀ (l : Array Bool) (X : Nat → ι) (t : Nat) (y : Value), (t, y) ∈ cm l X ↔ ∃ (q : Nat) (s : Sp ι), l.getD q false = true ∧ S[q]? = some s ∧ s.d = some t ∧ y = s.v X := by
    intro l X t y
    show (t, y) ∈ List.flatMap _ _ ↔ _
    rw [List.mem_flatMap]
    constructor
    · rintro ⟨q, hq, hm⟩
      have hq := (memdn l q).1 hq
      cases hs : S[q]? with
      | none => simp only [bd, hs] at hm; cases hm
      | some s =>
        simp only [bd, hs, Sp.bind] at hm
        cases hd : s.d with
        | none => rw [hd] at hm; cases hm
        | some d =>
          rw [hd] at hm
          obtain ⟨rfl, rfl⟩ := Prod.mk.inj (List.mem_singleton.1 hm)
          exact ⟨q, s, hq.2, hs, hd, rfl⟩
    · rintro ⟨q, s, hl, hs, hd, rfl⟩
      refine ⟨q, (memdn l q).2 ⟨hlt q s hs, hl⟩, ?_⟩
      simp only [bd, hs, Sp.bind, hd]
      exact List.mem_singleton.2 rfl
  have memE : ∀ (i : Nat) (X : Nat → ι) (t : Nat) (y : Value), (t, y) ∈ (S.take i).reverse.flatMap (·.bind X) ↔ ∃ (q : Nat) (s : Sp ι), q < i ∧ S[q]? = some s ∧ s.d = some t ∧ y = s.v X := by
    intro i X t y
    rw [List.mem_flatMap]
    constructor
    · rintro ⟨s, hs, hm⟩
      rw [List.mem_reverse] at hs
      obtain ⟨q, hq1, hq2⟩ := List.mem_iff_getElem.1 hs
      have hqi : q < i := by simp at hq1; omega
      have hq : S[q]? = some s := by
        have : (S.take i)[q]? = some s := by rw [List.getElem?_eq_getElem hq1, hq2]
        rwa [List.getElem?_take, if_pos hqi] at this
      simp only [Sp.bind] at hm
      cases hd : s.d with
      | none => rw [hd] at hm; cases hm
      | some d =>
        rw [hd] at hm
        obtain ⟨rfl, rfl⟩ := Prod.mk.inj (List.mem_singleton.1 hm)
        exact ⟨q, s, hqi, hq, hd, rfl⟩
    · rintro ⟨q, s, hq, hs, hd, rfl⟩
      refine ⟨s, List.mem_reverse.2 (List.mem_of_getElem? (i := q) (by rw [List.getElem?_take, if_pos hq]; exact hs)), ?_⟩
      simp only [Sp.bind, hd]
      exact List.mem_singleton.2 rfl
  have inCm : ∀ (l : Array Bool) (X : Nat → ι) (B : Env) (q : Nat) (s : Sp ι) (t : Nat), l.getD q false = true → S[q]? = some s → s.d = some t → look t (cm l X ++ B) = some (s.v X) := fun l X B q s t hl hs hd => look_in ((memcm l X t _).2 ⟨q, s, hl, hs, hd, rfl⟩) (fun x hx => by
    obtain ⟨q', s', _, hs', hd', rfl⟩ := (memcm l X t x).1 hx
    have := huniq q q' s s' t hs hs' hd hd'
    subst this
    rw [hs] at hs'; cases hs'; rfl)
  have offCm : ∀ (l : Array Bool) (X : Nat → ι) (B : Env) (t : Nat), (∀ (q : Nat) (s : Sp ι), l.getD q false = true → S[q]? = some s → s.d ≠ some t) → look t (cm l X ++ B) = look t B := fun l X B t h => look_app (fun p hp e => by
    obtain ⟨pt, pv⟩ := p
    simp only at e
    subst e
    obtain ⟨q, s, hl, hs, hd, _⟩ := (memcm l X pt pv).1 hp
    exact h q s hl hs hd)
  have inE : ∀ (i : Nat) (X : Nat → ι) (B : Env) (q : Nat) (s : Sp ι) (t : Nat), q < i → S[q]? = some s → s.d = some t → look t ((S.take i).reverse.flatMap (·.bind X) ++ B) = some (s.v X) := fun i X B q s t hl hs hd => look_in ((memE i X t _).2 ⟨q, s, hl, hs, hd, rfl⟩) (fun x hx => by
    obtain ⟨q', s', _, hs', hd', rfl⟩ := (memE i X t x).1 hx
    have := huniq q q' s s' t hs hs' hd hd'
    subst this
    rw [hs] at hs'; cases hs'; rfl)
  have offE : ∀ (i : Nat) (X : Nat → ι) (B : Env) (t : Nat), (∀ (q : Nat) (s : Sp ι), q < i → S[q]? = some s → s.d ≠ some t) → look t ((S.take i).reverse.flatMap (·.bind X) ++ B) = look t B := fun i X B t h => look_app (fun p hp e => by
    obtain ⟨pt, pv⟩ := p
    simp only at e
    subst e
    obtain ⟨q, s, hl, hs, hd, _⟩ := (memE i X pt pv).1 hp
    exact h q s hl hs hd)
  have agree : ∀ (l : Array Bool) (X : Nat → ι) (i : Nat) (o : Oper) (t : Nat), Dn l → i < m → ol[i]? = some o → l.getD i false = false → Afters ol (fun i => l.getD i false = true) i → t ∈ o.looksAt ol.toArray → look t (cm l X ++ env) = look t ((S.take i).reverse.flatMap (·.bind X) ++ env) := by
    intro l X i o t hdn hi ho hni hai ht
    have anc : ∀ j, ((masksOf ol []).getD i 0).testBit j = true → l.getD j false = true := fun j hj => hgood i j hj _ (fun q hq => hdn q hq) hai
    by_cases hex : ∃ (j : Nat) (s : Sp ι), S[j]? = some s ∧ s.d = some t
    · obtain ⟨j, s, hs, hd⟩ := hex
      have hjm := hlt j s hs
      obtain ⟨oj, hoj⟩ := D.m_le j hjm
      obtain ⟨s1, e1, e2, _⟩ := hget j oj hjm hoj
      rw [hs] at e1; cases e1
      rcases D.reads i j o oj t hi hjm ho hoj (e2.trans hd) ht with ⟨h3, h4⟩ | ⟨h3, h4⟩
      · rw [inCm l X env j s t (anc j h4) hs hd, inE i X env j s t h3 hs hd]
      · have hnl : ¬ l.getD j false = true := by
          intro hlj
          have := hgood j i h4 _ (fun q hq => hdn q hq) (hdn j hlj)
          rw [hni] at this
          cases this
        rw [offCm l X env t (fun q s' hq hs' hd' => by
          have := huniq q j s' s t hs' hs hd' hd
          subst this
          exact hnl hq), offE i X env t (fun q s' hq hs' hd' => by
          have := huniq q j s' s t hs' hs hd' hd
          omega)]
    · rw [offCm l X env t (fun q s _ hs hd => hex ⟨q, s, hs, hd⟩), offE i X env t (fun q s _ hs hd => hex ⟨q, s, hs, hd⟩)]
  let St (l : Array Bool) (a : Act) (w : World) : Prop := ∃ X : Nat → ι, Holds w0 N (cm l X ++ env) ((al l).flatMap (tf TL m hp0 X) ++ hp) a w
  have fin : ∀ (l : Array Bool) (a : Act) (w : World), (∀ j, j < m → l.getD j false = true) → St l a w → wpList P ol.toArray Q (ol.drop m) a w := by
    rintro l a w hall ⟨X, hH⟩
    have hdn : dn l = List.range m := List.filter_eq_self.2 (fun p hp => hall p (List.mem_range.1 hp))
    have hav : av l = List.range (m + ny) := List.filter_eq_self.2 (fun p hp => by
      by_cases h : m ≤ p
      · simp [h]
      · rw [hall p (by omega)]; simp)
    have hal : al l = (List.range (m + ny)).filter (fun q => !((S.map (fun s => (⟨s.U, s.R, s.D⟩ : UR))).any (fun u => u.U.contains q))) := by
      show List.filter _ (av l) = _
      rw [hav]
      refine List.filter_congr (fun q hq => ?_)
      congr 1
      show List.any (dn l) _ = _
      rw [hdn, Bool.eq_iff_iff, List.any_eq_true, List.any_eq_true]
      constructor
      · rintro ⟨p, hp, h⟩
        cases hs : S[p]? with
        | none => simp only [Uq, hs] at h; cases h
        | some s =>
          simp only [Uq, hs] at h
          exact ⟨⟨s.U, s.R, s.D⟩, List.mem_map.2 ⟨s, List.mem_of_getElem? hs, rfl⟩, h⟩
      · rintro ⟨u, hu, h⟩
        obtain ⟨s, hs, rfl⟩ := List.mem_map.1 hu
        obtain ⟨p, hp1, hp2⟩ := List.mem_iff_getElem.1 hs
        have hs' : S[p]? = some s := by rw [List.getElem?_eq_getElem hp1, hp2]
        refine ⟨p, List.mem_range.2 (hlt p s hs'), ?_⟩
        simp only [Uq, hs']
        exact h
    rw [hal] at hH
    refine k X a w ⟨hH.size, hH.defers, ?_, by rw [← hL X, ← hhp]; exact hH.heap⟩
    intro t x hx
    refine hH.env t x ?_
    rw [← hx, hEf]
    have hS : S.reverse.flatMap (·.bind X) = (S.take m).reverse.flatMap (·.bind X) := by rw [List.take_of_length_le (by omega)]
    rw [hS]
    by_cases hex : ∃ (j : Nat) (s : Sp ι), S[j]? = some s ∧ s.d = some t
    · obtain ⟨j, s, hs, hd⟩ := hex
      rw [inCm l X env j s t (hall j (hlt j s hs)) hs hd, inE m X env j s t (hlt j s hs) hs hd]
    · rw [offCm l X env t (fun q s _ hs hd => hex ⟨q, s, hs, hd⟩), offE m X env t (fun q s _ hs hd => hex ⟨q, s, hs, hd⟩)]
  refine wpAny_inv (fun l a w => Dn l ∧ ((∀ i, m ≤ i → l.getD i false = false) ∧ St l a w ∨ ∃ k, m < k ∧ k ≤ ol.length ∧ (∀ i, l.getD i false = true ↔ i < k) ∧ wpList P ol.toArray Q (ol.drop k) a w)) ?_ ?_ (ends_of D.on) _ _ _ _ (by simp) ?_ ?_
  · rintro l a w i ⟨hdn, hI⟩ hls hi hni hr
    have hni' : l.getD i false = false := by
      have hil : i < l.size := by rw [hls]; exact hi
      have : l.getD i true = l.getD i false := by simp [Array.getD_eq_getD_getElem?, hil]
      rw [← this, hni]
    have hi' : i < ol.length := by simpa using hi
    have ho : ol[i]? = some ol[i] := List.getElem?_eq_getElem hi'
    have hoa : ol.toArray[i]? = some ol[i] := by simp
    have hset : ∀ j, (l.setIfInBounds i true).getD j false = true ↔ j = i ∨ l.getD j false = true := by
      intro j
      by_cases e : j = i
      · subst e
        rw [getD_set_self l j false (by rw [hls]; exact hi)]
        simp
      · rw [getD_set_other l i j false (Ne.symm e)]
        simp [e]
    have hai : Afters ol (fun i => l.getD i false = true) i := fun o ho' e he hb => by
      rw [ho] at ho'; cases ho'
      exact hr _ hoa e he hb
    have hdn' : Dn (l.setIfInBounds i true) := by
      intro j hj o hoj e he hb
      rcases (hset j).1 hj with rfl | hj
      · exact (hset _).2 (.inr (hai o hoj e he hb))
      · exact (hset _).2 (.inr (hdn j hj o hoj e he hb))
    have anc : ∀ j, ((masksOf ol []).getD i 0).testBit j = true → l.getD j false = true := fun j hj => hgood i j hj _ (fun q hq => hdn q hq) hai
    have ancD : ∀ p q, l.getD p false = true → ((masksOf ol []).getD p 0).testBit q = true → l.getD q false = true := fun p q hp hq => hgood p q hq _ (fun q hq => hdn q hq) (hdn p hp)
    have hlate' : (∀ j, m ≤ j → l.getD j false = false) → i < m → ∀ j, m ≤ j → (l.setIfInBounds i true).getD j false = false := by
      intro hlate him j hj
      cases hv : (l.setIfInBounds i true).getD j false with
      | false => rfl
      | true =>
        rcases (hset j).1 hv with rfl | h
        · omega
        · rw [hlate j hj] at h; cases h
    rcases hI with ⟨hlate, X, hH⟩ | ⟨k', hk, hkl, hl, hwp⟩
    · by_cases him : i < m
      · obtain ⟨s, hs, hd, hlc, hpart⟩ := hget i _ him ho
        have hsU : Uq i = s.U := by simp only [Uq, hs]
        have hUanc : ∀ q ∈ s.U ++ s.R, q ∈ av l ∧ q ≠ i := fun q hq => by
          rcases huse i s q hs hq with h | h
          · exact ⟨(memav l q).2 ⟨by omega, .inr (anc q h.2)⟩, by omega⟩
          · exact ⟨(memav l q).2 ⟨h.2, .inl h.1⟩, by omega⟩
        have husN : ∀ q ∈ s.U ++ s.R, us l q = false := fun q hq => by
          cases hb : us l q with
          | false => rfl
          | true =>
            exfalso
            obtain ⟨p, hp, hpq⟩ := List.any_eq_true.1 hb
            have hpl := ((memdn l p).1 hp).2
            cases hsp : S[p]? with
            | none => simp only [Uq, hsp] at hpq; cases hpq
            | some sp =>
              simp only [Uq, hsp] at hpq
              rcases List.mem_append.1 hq with hq | hq
              · have := hUone i p s sp q hs hsp hq (List.contains_iff_mem.1 hpq)
                subst this
                rw [hni'] at hpl; cases hpl
              · have := ancD p i hpl (hreadb i p s sp q hs hsp hq (List.contains_iff_mem.1 hpq))
                rw [hni'] at this; cases this
        have husi : us l i = false := by
          cases hb : us l i with
          | false => rfl
          | true =>
            exfalso
            obtain ⟨p, hp, hpq⟩ := List.any_eq_true.1 hb
            have hpl := ((memdn l p).1 hp).2
            cases hsp : S[p]? with
            | none => simp only [Uq, hsp] at hpq; cases hpq
            | some sp =>
              simp only [Uq, hsp] at hpq
              rcases huse p sp i hsp (List.mem_append_left _ (List.contains_iff_mem.1 hpq)) with h | h
              · have := ancD p i hpl h.2
                rw [hni'] at this; cases this
              · omega
        have mav' : ∀ q, q ∈ av (l.setIfInBounds i true) ↔ q = i ∨ q ∈ av l := fun q => by
          rw [memav, memav, hset]
          constructor
          · rintro ⟨h1, h2 | rfl | h2⟩
            · exact .inr ⟨h1, .inl h2⟩
            · exact .inl rfl
            · exact .inr ⟨h1, .inr h2⟩
          · rintro (rfl | ⟨h1, h2 | h2⟩)
            · exact ⟨by omega, .inr (.inl rfl)⟩
            · exact ⟨h1, .inl h2⟩
            · exact ⟨h1, .inr (.inr h2)⟩
        have mdn' : ∀ q, q ∈ dn (l.setIfInBounds i true) ↔ q = i ∨ q ∈ dn l := fun q => by
          rw [memdn, memdn, hset]
          constructor
          · rintro ⟨h1, rfl | h2⟩
            · exact .inl rfl
            · exact .inr ⟨h1, h2⟩
          · rintro (rfl | ⟨h1, h2⟩)
            · exact ⟨him, .inl rfl⟩
            · exact ⟨h1, .inr h2⟩
        have hus' : ∀ q, us (l.setIfInBounds i true) q = (us l q || s.U.contains q) := fun q => by
          rw [Bool.eq_iff_iff, Bool.or_eq_true]
          show List.any _ _ = true ↔ List.any _ _ = true ∨ _
          rw [List.any_eq_true, List.any_eq_true]
          constructor
          · rintro ⟨p, hp, h⟩
            rcases (mdn' p).1 hp with rfl | hp
            · rw [hsU] at h; exact .inr h
            · exact .inl ⟨p, hp, h⟩
          · rintro (⟨p, hp, h⟩ | h)
            · exact ⟨p, (mdn' p).2 (.inr hp), h⟩
            · exact ⟨i, (mdn' i).2 (.inl rfl), by rw [hsU]; exact h⟩
        let rest : List Nat := (av l).filter (fun q => !us l q && !((s.U ++ s.R).contains q))
        have hndav : ∀ l, (av l).Nodup := fun l => List.nodup_range.filter _
        have nci : ∀ q, q ∈ av l → (q ∈ s.U ++ s.R ∨ (s.U ++ s.R).contains q = false) := fun q _ => by
          cases hb : (s.U ++ s.R).contains q with
          | false => exact .inr rfl
          | true => exact .inl (List.contains_iff_mem.1 hb)
        have hinav : i ∉ av l := fun h => by
          rcases ((memav l i).1 h).2 with h | h
          · omega
          · rw [hni'] at h; cases h
        have hperm1 : (al l).Perm ((s.U ++ s.R) ++ rest) := by
          refine permOf ?_ ((hndav l).filter _) (fun q => ?_)
          · rw [List.nodup_append]
            refine ⟨hURnd i s hs, (hndav l).filter _, fun q hq q' hq' e => ?_⟩
            subst e
            have := (List.mem_filter.1 hq').2
            rw [List.contains_iff_mem.2 hq] at this
            simp at this
          · show q ∈ List.filter _ _ ↔ _
            rw [List.mem_filter, List.mem_append]
            constructor
            · rintro ⟨h1, h2⟩
              rcases nci q h1 with h | h
              · exact .inl h
              · exact .inr (List.mem_filter.2 ⟨h1, by rw [h, h2]; rfl⟩)
            · rintro (h | h)
              · exact ⟨(hUanc q h).1, by rw [husN q h]; rfl⟩
              · have := List.mem_filter.1 h
                refine ⟨this.1, ?_⟩
                have h2 := this.2
                rw [Bool.and_eq_true] at h2
                exact h2.1
        have hperm2 : (al (l.setIfInBounds i true)).Perm (i :: (s.R ++ rest)) := by
          refine permOf ?_ ((hndav _).filter _) (fun q => ?_)
          · rw [List.nodup_cons, List.nodup_append]
            refine ⟨fun h => ?_, (List.nodup_append.1 (hURnd i s hs)).2.1, (hndav l).filter _, fun q hq q' hq' e => ?_⟩
            · rcases List.mem_append.1 h with h | h
              · exact (hUanc i (List.mem_append_right _ h)).2 rfl
              · exact hinav (List.mem_filter.1 h).1
            · subst e
              have := (List.mem_filter.1 hq').2
              rw [List.contains_iff_mem.2 (List.mem_append_right _ hq)] at this
              simp at this
          · show q ∈ List.filter _ _ ↔ _
            rw [List.mem_filter, List.mem_cons, mav', hus', List.mem_append]
            constructor
            · rintro ⟨rfl | h1, h2⟩
              · exact .inl rfl
              · rw [Bool.not_or, Bool.and_eq_true] at h2
                rcases nci q h1 with h | h
                · rcases List.mem_append.1 h with h | h
                  · rw [List.contains_iff_mem.2 h] at h2
                    simp at h2
                  · exact .inr (.inl h)
                · exact .inr (.inr (List.mem_filter.2 ⟨h1, by rw [h, h2.1]; rfl⟩))
            · rintro (rfl | h | h)
              · refine ⟨.inl rfl, ?_⟩
                have : s.U.contains q = false := by
                  cases hb : s.U.contains q with
                  | false => rfl
                  | true => exact absurd rfl (hUanc q (List.mem_append_left _ (List.contains_iff_mem.1 hb))).2
                rw [husi, this]; rfl
              · refine ⟨.inr (hUanc q (List.mem_append_right _ h)).1, ?_⟩
                have : s.U.contains q = false := by
                  cases hb : s.U.contains q with
                  | false => rfl
                  | true => exact absurd rfl ((List.nodup_append.1 (hURnd i s hs)).2.2 q (List.contains_iff_mem.1 hb) q h)
                rw [husN q (List.mem_append_right _ h), this]; rfl
              · have := List.mem_filter.1 h
                refine ⟨.inr this.1, ?_⟩
                have h2 := this.2
                rw [Bool.and_eq_true] at h2
                have h3 : s.U.contains q = false := by
                  cases hb : s.U.contains q with
                  | false => rfl
                  | true =>
                    have := h2.2
                    rw [List.contains_iff_mem.2 (List.mem_append_left s.R (List.contains_iff_mem.1 hb))] at this
                    simp at this
                rw [h3, Bool.or_false]
                exact h2.1
        have close : ∀ (X' : Nat → ι) (w' : World), (∀ q, q ≠ i → X' q = X q) → HeapOK w0 ((tk TL i X' ++ s.R.flatMap (tf TL m hp0 X)) ++ (rest.flatMap (tf TL m hp0 X) ++ hp)) w' → St (l.setIfInBounds i true) (a.put (ol[i]).dst (s.v X')) w' := by
          intro X' w' hX' hh'
          have hlocq : ∀ (q : Nat) (sq : Sp ι), l.getD q false = true → S[q]? = some sq → sq.v X' = sq.v X ∧ tk TL q X' = tk TL q X := fun q sq hq hsq => hloc q sq hsq X' X (hX' q (fun e => by subst e; rw [hni'] at hq; cases hq)) (fun r hrD => hX' r (fun e => by
            subst e
            have := ancD q r hq (hdep q sq r hsq hrD).2
            rw [hni'] at this; cases this))
          refine ⟨X', ?_⟩
          have htfq : ∀ q, q ∈ av l → tf TL m hp0 X' q = tf TL m hp0 X q := fun q hq => by
            by_cases hqm : q < m
            · have hql : l.getD q false = true := by
                rcases ((memav l q).1 hq).2 with h | h
                · omega
                · exact h
              have hqS : q < S.length := by omega
              unfold tf
              rw [(hlocq q _ hql (List.getElem?_eq_getElem hqS)).2]
            · unfold tf
              have : Nat.blt q m = false := by
                cases hb : Nat.blt q m with
                | false => rfl
                | true => rw [Nat.blt_eq] at hb; exact absurd hb hqm
              rw [this]; rfl
          have hh2 : HeapOK w0 ((al (l.setIfInBounds i true)).flatMap (tf TL m hp0 X') ++ hp) w' := by
            refine hh'.perm ?_
            have e1 : rest.flatMap (tf TL m hp0 X) = rest.flatMap (tf TL m hp0 X') := flat_congr (fun q hq => (htfq q (List.mem_filter.1 hq).1).symm)
            have e2 : s.R.flatMap (tf TL m hp0 X) = s.R.flatMap (tf TL m hp0 X') := flat_congr (fun q hq => (htfq q (hUanc q (List.mem_append_right _ hq)).1).symm)
            have e3 : tk TL i X' = tf TL m hp0 X' i := by
              unfold tf
              rw [show Nat.blt i m = true by rw [Nat.blt_eq]; exact him]; rfl
            rw [e1, e2, e3, ← List.append_assoc, List.append_assoc (tf TL m hp0 X' i)]
            refine List.Perm.append_right _ ?_
            refine List.Perm.symm ((hperm2.flatMap_right _).trans ?_)
            rw [List.flatMap_cons, List.flatMap_append]
          have hcs : ∀ t, (∀ d, s.d = some d → t ≠ d) → look t (cm (l.setIfInBounds i true) X' ++ env) = look t (cm l X ++ env) := by
            intro t hne
            by_cases hex : ∃ (j : Nat) (sj : Sp ι), l.getD j false = true ∧ S[j]? = some sj ∧ sj.d = some t
            · obtain ⟨j, sj, hlj, hsj, hdj⟩ := hex
              rw [inCm _ X' env j sj t ((hset j).2 (.inr hlj)) hsj hdj, inCm l X env j sj t hlj hsj hdj, (hlocq j sj hlj hsj).1]
            · rw [offCm _ X' env t (fun q sq hq hsq hdq => by
                rcases (hset q).1 hq with rfl | hq
                · rw [hs] at hsq; cases hsq; exact hne t hdq rfl
                · exact hex ⟨q, sq, hq, hsq, hdq⟩), offCm l X env t (fun q sq hq hsq hdq => hex ⟨q, sq, hq, hsq, hdq⟩)]
          rw [hd]
          cases hsd : s.d with
          | none =>
            refine ⟨hH.size, hH.defers, ?_, hh2⟩
            intro t y hy
            refine hH.env t y ?_
            rw [← hy, hcs t (fun d e => by rw [hsd] at e; cases e)]
          | some d =>
            have hdN := D.lt i _ d him ho (hd.trans hsd)
            have hp1 := hH.put d (s.v X') hdN hh2
            refine ⟨hp1.size, hp1.defers, ?_, hh2⟩
            intro t y hy
            by_cases e : t = d
            · subst e
              rw [inCm _ X' env i s t ((hset i).2 (.inl rfl)) hs hsd] at hy
              cases hy
              exact hp1.env t _ (by rw [look_cons, if_pos rfl])
            · refine hp1.env t y ?_
              rw [look_cons, if_neg e, ← hy, hcs t (fun d' e' => by rw [hsd] at e'; cases e'; exact e)]
        have hH2 : HeapOK w0 ((s.U ++ s.R).flatMap (tf TL m hp0 X) ++ (rest.flatMap (tf TL m hp0 X) ++ hp)) w := by
          refine hH.heap.perm ?_
          rw [← List.append_assoc]
          refine List.Perm.append_right hp ?_
          have p1 := hperm1.flatMap_right (tf TL m hp0 X)
          rwa [List.flatMap_append] at p1
        have hsoft : ∀ rest : List Nat, (rest.flatMap (tf TL m hp0 X)).all Item.sh = true := fun rest => by
          rw [List.all_eq_true]
          intro it hi
          obtain ⟨q, _, hq⟩ := List.mem_flatMap.1 hi
          unfold tf at hq
          cases hb : Nat.blt q m with
          | true => rw [hb] at hq; exact List.all_eq_true.1 (hTS q X) it hq
          | false =>
            rw [hb] at hq
            have hq : it ∈ (hp0[q - m]?).toList := hq
            cases hx : hp0[q - m]? with
            | none => rw [hx] at hq; cases hq
            | some z => rw [hx] at hq; obtain rfl := List.mem_singleton.1 hq; exact List.all_eq_true.1 hps it (List.mem_of_getElem? hx)
        have hag : ∀ t ∈ (ol[i]).looksAt ol.toArray, look t (cm l X ++ env) = look t ((S.take i).reverse.flatMap (·.bind X) ++ env) := fun t ht => agree l X i _ t hdn him ho hni' hai ht
        have hop : ∀ t, .tmp t ∈ (ol[i]).op.operands → look t (cm l X ++ env) = look t ((S.take i).reverse.flatMap (·.bind X) ++ env) := fun t ht => hag t (List.mem_append_left _ (List.mem_filterMap.2 ⟨.tmp t, by simpa using ht, rfl⟩))
        have hgu : ∀ j tj b, (ol[i]).guard = some (j, b) → (ol.toArray[j]?).bind (·.dst) = some tj → look tj (cm l X ++ env) = look tj ((S.take i).reverse.flatMap (·.bind X) ++ env) := fun j tj b hg hj => hag tj (List.mem_append_right _ (by rw [hg]; simp only [Option.toList_some, List.flatMap_cons, List.flatMap_nil, List.append_nil]; rw [hj]; simp))
        unfold Go.wpOp
        simp only [hoa]
        have run : (SpE P w0 hp0 m ny TL i ol[i] (fun X => (S.take i).reverse.flatMap (·.bind X) ++ env) s.v s.U s.R) → (ol[i]).wp P a w (fun a' w' => Dn (l.setIfInBounds i true) ∧ ((∀ j, m ≤ j → (l.setIfInBounds i true).getD j false = false) ∧ St (l.setIfInBounds i true) a' w' ∨ ∃ k, m < k ∧ k ≤ ol.length ∧ (∀ j, (l.setIfInBounds i true).getD j false = true ↔ j < k) ∧ wpList P ol.toArray Q (ol.drop k) a' w')) Q := fun hq =>
          ((hq X).any (D.sel i _ him ho) hop).wp (hsoft rest) hH.env (by rw [← hhp]; exact hH2) (fun x w' hh' => ⟨hdn', .inl ⟨hlate' hlate him, close (gset X i x) w' (fun q hq => gset_other X i x hq) (by rw [← hhp] at hh'; exact hh')⟩⟩)
        rcases hpart with ⟨hg, hq⟩ | ⟨j, tj, b, hg, hj, hb, hq⟩ | ⟨j, tj, b, x, hg, hj, hx, hb, hv, hU0, hR0, hT0⟩
        · rw [if_pos (by simp [Region.wanted, hg])]
          exact .inl (run hq)
        · have hw := wanted_of (ops := ol.toArray) hg hj (hH.env tj _ ((hgu j tj b hg hj).trans (hb X)))
          rw [hw, if_pos (by simp)]
          exact .inl (run hq)
        · have hw := unwanted_of (ops := ol.toArray) hg hj hx (hH.env tj _ ((hgu j tj b hg hj).trans (hb X)))
          rw [hw, if_neg (by simp)]
          have := close X w (fun _ _ => rfl) (by
            rw [hU0, hR0] at hH2
            rw [hT0 X, hR0]
            exact hH2)
          rw [hv X] at this
          exact ⟨hdn', .inl ⟨hlate' hlate him, this⟩⟩
      · have hall : ∀ j, j < i → l.getD j false = true := fun j hj => anc j (D.late i j (by omega) hi' hj)
        have him2 : i = m := by
          rcases Nat.lt_or_ge m i with h | h
          · have := hall m h; rw [hlate m (Nat.le_refl _)] at this; cases this
          · omega
        subst him2
        have hwl := fin l a w hall ⟨X, hH⟩
        rw [List.drop_eq_getElem_cons hi'] at hwl
        unfold Go.wpOp
        simp only [hoa]
        unfold wpList at hwl
        have hfin : ∀ a w, wpList P ol.toArray Q (ol.drop (i + 1)) a w → Dn (l.setIfInBounds i true) ∧ ((∀ j, i ≤ j → (l.setIfInBounds i true).getD j false = false) ∧ St (l.setIfInBounds i true) a w ∨ ∃ k, i < k ∧ k ≤ ol.length ∧ (∀ j, (l.setIfInBounds i true).getD j false = true ↔ j < k) ∧ wpList P ol.toArray Q (ol.drop k) a w) := by
          intro a w h
          refine ⟨hdn', .inr ⟨i + 1, by omega, by omega, fun j => ?_, h⟩⟩
          rw [hset j]
          constructor
          · rintro (rfl | h2)
            · omega
            · by_cases hji : i ≤ j
              · rw [hlate j hji] at h2; cases h2
              · omega
          · intro h2
            by_cases hji : j = i
            · exact .inl hji
            · exact .inr (hall j (by omega))
        split
        · rename_i hw
          rw [if_pos hw] at hwl
          exact hwl.imp (Oper.wp_mono hfin) (fun x => x)
        · rename_i hw
          rw [if_neg hw] at hwl
          exact hfin _ _ hwl
    · have hk2 : i = k' := by
        have h1 : ¬ i < k' := fun h => by
          have := (hl i).2 h
          rw [hni'] at this; cases this
        rcases Nat.lt_or_ge k' i with h | h
        · have := (hl k').1 (anc k' (D.late i k' (by omega) hi' h))
          omega
        · omega
      subst hk2
      rw [List.drop_eq_getElem_cons hi'] at hwp
      unfold Go.wpOp
      simp only [hoa]
      unfold wpList at hwp
      have hfin : ∀ a w, wpList P ol.toArray Q (ol.drop (i + 1)) a w → Dn (l.setIfInBounds i true) ∧ ((∀ j, m ≤ j → (l.setIfInBounds i true).getD j false = false) ∧ St (l.setIfInBounds i true) a w ∨ ∃ k, m < k ∧ k ≤ ol.length ∧ (∀ j, (l.setIfInBounds i true).getD j false = true ↔ j < k) ∧ wpList P ol.toArray Q (ol.drop k) a w) := by
        intro a w h
        refine ⟨hdn', .inr ⟨i + 1, by omega, by omega, fun j => ?_, h⟩⟩
        rw [hset j, hl j]
        omega
      split
      · rename_i hw
        rw [if_pos hw] at hwp
        exact hwp.imp (Oper.wp_mono hfin) (fun x => x)
      · rename_i hw
        rw [if_neg hw] at hwp
        exact hfin _ _ hwp
  · rintro l a w ⟨hdn, hI⟩ hall
    rcases hI with ⟨hlate, hSt⟩ | ⟨k', hk, hkl, hl, hwp⟩
    · have hmm : m = ol.length := by
        rcases Nat.lt_or_ge m ol.length with h | h
        · have := hall m (by simpa using h)
          rw [hlate m (Nat.le_refl _)] at this; cases this
        · omega
      have := fin l a w (fun j hj => hall j (by simp; omega)) hSt
      rw [hmm, List.drop_length] at this
      exact this
    · have hkk : k' = ol.length := by
        rcases Nat.lt_or_ge k' ol.length with h | h
        · have := (hl k').1 (hall k' (by simpa using h))
          omega
        · omega
      rw [hkk, List.drop_length] at hwp
      exact hwp
  · unfold cntF
    refine Nat.le_trans (List.countP_le_length) (by simp)
  · have hrep : ∀ j, (Array.replicate ol.toArray.size false).getD j false = false := by
      intro j
      by_cases hj : j < ol.length <;> simp [Array.getD_eq_getD_getElem?, hj]
    refine ⟨fun i hi => ?_, .inl ⟨fun j _ => hrep j, fun _ => Classical.choice ‹_›, ?_⟩⟩
    · rw [hrep i] at hi; cases hi
    · have hdn0 : dn (Array.replicate ol.toArray.size false) = [] := by
        show List.filter _ _ = []
        rw [List.filter_eq_nil_iff]
        intro i _
        rw [hrep i]
        simp
      have hav0 : (av (Array.replicate ol.toArray.size false)).filter (fun q => !us (Array.replicate ol.toArray.size false) q) = (List.range ny).map (m + ·) := by
        have h1 : av (Array.replicate ol.toArray.size false) = (List.range ny).map (m + ·) := by
          show List.filter _ (List.range (m + ny)) = _
          rw [List.range_add, List.filter_append]
          have e1 : (List.range m).filter (fun q => decide (m ≤ q) || (Array.replicate ol.toArray.size false).getD q false) = [] := List.filter_eq_nil_iff.2 (fun q hq => by
            rw [hrep q]
            have := List.mem_range.1 hq
            simp; omega)
          have e2 : ((List.range ny).map (m + ·)).filter (fun q => decide (m ≤ q) || (Array.replicate ol.toArray.size false).getD q false) = (List.range ny).map (m + ·) := List.filter_eq_self.2 (fun q hq => by
            obtain ⟨r, _, rfl⟩ := List.mem_map.1 hq
            simp)
          rw [e1, e2]; rfl
        rw [h1]
        refine List.filter_eq_self.2 (fun q _ => ?_)
        show (!(List.any (dn _) _)) = true
        rw [hdn0]; rfl
      show Holds w0 N ((dn _).flatMap _ ++ env) (((av _).filter _).flatMap _ ++ hp) _ _
      rw [hdn0, hav0]
      have hh2 := hh.heap
      have e : ((List.range ny).map (m + ·)).flatMap (tf TL m hp0 (fun _ => Classical.choice ‹_›)) = hp0.take ny := by
        rw [← take_pick (m := m) ny hny]
        refine flat_congr (fun q hq => ?_)
        obtain ⟨r, _, rfl⟩ := List.mem_map.1 hq
        unfold tf
        have : Nat.blt (m + r) m = false := by
          cases hb : Nat.blt (m + r) m with
          | false => rfl
          | true => rw [Nat.blt_eq] at hb; omega
        rw [this]; rfl
      rw [e, hhp, List.take_append_drop]
      exact ⟨hh.size, hh.defers, hh.env, hh2.drawn _⟩
end
section
variable {P : Program} {ops : Array Oper} {w0 : World} {N : Fr} {l : List Oper} {env : Env} {hp : List Item} {o : Oper} {m ny : Nat} {β : Type}
def oldK (w0 : World) (C : Prop) (w : World) : Item := .ro (fun k => (Below w0.heap.size w0 w ∧ C) → k < w.heap.size) w
theorem oldK.get {w wR : World} {C : Prop} {i : Nat} (h : HeapOK w0 hp w) (hi : hp[i]? = some (oldK w0 C wR)) : C ∧ Below wR.heap.size wR w := by
  have hm := List.mem_of_getElem? hi
  have hb := h.bound _ hm
  have hk : ∀ k, (oldK w0 C wR).foot k → w.heap[k]? = wR.heap[k]? := h.ok _ hm
  have hF : Below w0.heap.size w0 wR ∧ C := Classical.byContradiction fun hn => absurd (hb w.heap.size (fun hx => absurd hx hn)) (Nat.lt_irrefl _)
  refine ⟨hF.2, ?_⟩
  have hs : wR.heap.size ≤ w.heap.size := by
    rcases Nat.lt_or_ge w.heap.size wR.heap.size with hlt | hge
    · exact absurd (hb w.heap.size (fun _ => hlt)) (Nat.lt_irrefl _)
    · exact hge
  exact ⟨h.os.trans hF.1.os.symm, h.tape.trans hF.1.tape.symm, h.output.trans hF.1.output.symm, hs, fun k hlt => hk k (fun _ => hlt)⟩
theorem soft_app {a b : List Item} (ha : a.all Item.sh = true) (hb : b.all Item.sh = true) : (a ++ b).all Item.sh = true := by rw [List.all_append, ha, hb]; rfl
theorem HeapOK.softs {X : List Item} {w w' : World} {C : Prop} (h : HeapOK w0 X w) (hs : X.all Item.sh = true) (h0 : Below w0.heap.size w0 w) (hb : Below w.heap.size w w') (hC : C) : HeapOK w0 (oldK w0 C w' :: X) w' := by
  have h2 := h.below hb
  have hF : Below w0.heap.size w0 w' ∧ C := ⟨h0.next hb, hC⟩
  refine ⟨h2.os, h2.tape, h2.output, h2.size, fun it hi => ?_, fun it hi => ?_, ?_⟩
  · rcases List.mem_cons.1 hi with rfl | hi
    · exact fun k _ => rfl
    · exact h2.ok it hi
  · rcases List.mem_cons.1 hi with rfl | hi
    · exact fun k hk => hk hF
    · exact h2.bound it hi
  · rw [List.pairwise_cons]
    refine ⟨fun it hi => .inl ?_, h2.apart⟩
    have := List.all_eq_true.1 hs it hi
    show (true && it.sh) = true
    rw [this]; rfl
theorem oe_callK {f : Nat} {args : Array Operand} {ts : Array TypeId} {vs : List Value} {X : List Item} {v : β → Value} {C : β → World → Prop} (ho : o.op = .call { callee := .value (.func f), args := args, argTypes := ts }) (he : Ent P f) (ha : evL args.toList env = some vs)
    (hX : X.all Item.sh = true) (hps : hp.all Item.sh = true) (hm : old w0 ∈ hp)
    (hc : ∀ R w, HeapOK w0 (X ++ (R ++ hp)) w → Calls P f vs.toArray w (fun e w' => ∃ x, C x w' ∧ e = .returned (v x) ∧ Below w.heap.size w w')) : OpE P o env w0 hp X (fun x : β × World => v x.1) (fun x => oldK w0 (C x.1 x.2) x.2 :: X) := by
  intro R hR a w hev hh
  rw [call_func ho, evA_of hev ha, he]
  refine (hc R w hh).mono (fun e w' ⟨x, hC, h1, hb⟩ => ⟨(x, w'), h1, ?_⟩)
  exact HeapOK.softs hh (soft_app hX (soft_app hR hps)) (hh.toBelow (List.mem_append_right _ (List.mem_append_right _ hm))) hb hC
variable {TL : List (Nat × ((Nat → β × World) → List Item))} {i : Nat} {E Ef : (Nat → β × World) → Env} {S : List (Sp (β × World))}
theorem ChainG.kcall {d : Nat} (v : β → Value) (C : β → World → Prop) (R : List Nat) (hq : ∀ X, OpE P o (E X) w0 (hp.drop ny) (R.flatMap (tf TL m hp X)) (fun x : β × World => v x.1) (fun x => oldK w0 (C x.1 x.2) x.2 :: R.flatMap (tf TL m hp X))) (hg : o.guard = none) (hd : o.dst = some d)
    (ht : ∀ X, tk TL i X = [oldK w0 (C (X i).1 (X i).2) (X i).2]) (k : ChainG P w0 hp m ny ops TL (i + 1) l (fun X => (d, v (X i).1) :: E X) S Ef) : ChainG P w0 hp m ny ops TL i (o :: l) E (⟨some d, fun X => v (X i).1, [], R, []⟩ :: S) Ef :=
  .op (fun (X : Nat → β × World) => v (X i).1) [] R [] (fun X => by
    have h := hq X
    simp only [ht, gset_self, List.nil_append]
    exact h) hg hd (fun X X' h1 _ => ⟨by simp only [h1], by rw [ht, ht, h1]⟩) k
theorem tk_soft {ι : Type} {TL : List (Nat × ((Nat → ι) → List Item))} (h : ∀ p ∈ TL, ∀ X, (p.2 X).all Item.sh = true) : ∀ q X, (tk TL q X).all Item.sh = true := by
  intro q X
  induction TL with
  | nil => rfl
  | cons p r ih =>
    obtain ⟨a, f⟩ := p
    show ((bif Nat.beq q a then f X else tk r q X)).all Item.sh = true
    cases Nat.beq q a with
    | true => exact h _ (List.mem_cons_self ..) X
    | false => exact ih (fun p hp => h p (List.mem_cons_of_mem _ hp))
end
end Go.Sx.KD
end
