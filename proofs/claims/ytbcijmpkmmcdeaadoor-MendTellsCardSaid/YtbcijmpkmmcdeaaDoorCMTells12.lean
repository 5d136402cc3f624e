/- Texts of mine, put together (no statement stands here). -/
import Derived.Test.YtbcijmpkmmcdeaaDoorCMTells11
import Derived.Test.YtbcijmpkmmcdeaaDoorCMTells9
import Derived.Test.YtbcijmpkmmcdeaaDoorCMTells2
import Derived.Test.YtbcijmpkmmcdeaaDoorCMTells6
import Derived.Deep.Upon
section
namespace Go.Proofs.YtbcijmpkmmcdeaaDoor.SF
open Go.RowKit Go.Sx Go.Proofs.YtbcijmpkmmcdeaaDoor.PAll Go.Proofs.YtbcijmpkmmcdeaaDoorW.PrintWords Go.Proofs.YtbcijmpkmmcdeaaDoorW.PrintLast Go.Proofs.YtbcijmpkmmcdeaaDoorW.PrintMore
set_option linter.unusedVariables false
set_option linter.unusedSimpArgs false
set_option maxRecDepth 100000
theorem cloneb_calls {A : Option Addr} {c : Nat} {l : List Int} {w0 w : World} {hp : List Sx.Item} (hw : HeapOK w0 hp w) (hr : Kd.C (Kd.int .u8) w A l.length l) (hc : l.length ≤ c) (hl : l.length < 17592186044416) :
    Calls Tryd.prog 39 #[.slice A l.length c] w fun e w' => ∃ i : Option Addr × Nat, l.length ≤ i.2 ∧ e = .returned (.slice i.1 l.length i.2) ∧ HeapOK w0 (.own 0 5 1 (.slice i.1 l.length i.2) l.length (nums .u8 l) :: hp) w' := by
  refine (slices_Clone_byte_byte.calls A c l l w hr hc (by unfold slices_Clone_byte_byte.f; simp only [Option.bind_some, List.nil_append, List.length_nil, Nat.zero_add]; rw [if_pos (by omega)])).mono ?_
  rintro e w' ⟨v, rfl, hR, hb⟩
  obtain ⟨A2, c2, rfl, hc2, _⟩ := Kd.R_reads hR
  exact ⟨(A2, c2), hc2, rfl, hw.newOwn hb (own_of_R hR)⟩
theorem own_cap {w : World} {base E sz n c : Nat} {A : Option Addr} {xs : List Value} (h : w.ownsRow base E sz (.slice A n c) n xs) : n ≤ c := by
  rcases h.2 with ⟨e, e0⟩ | ⟨g, cap, cur, e, hg, hh, hn, r⟩
  · omega
  · cases e; exact hn
structure Jn where
  s0 : List Int
  s1 : List Int
  last : Int
  was : List Int
  wrote : Bool
def RowC (w : World) (p : Option Addr × Nat) (l : List Int) : Prop := l.length ≤ p.2 ∧ Kd.C (Kd.int .u8) w p.1 l.length l
def Jn.cells (J : Jn) (p0 p1 p2 : Option Addr × Nat) : List Value := [.slice p0.1 J.s0.length p0.2, .slice p1.1 J.s1.length p1.2, .int .i64 J.last, .slice p2.1 J.was.length p2.2, .bool J.wrote]
def Jn.ok (w : World) (J : Jn) (p0 p1 p2 : Option Addr × Nat) : Prop := RowC w p0 J.s0 ∧ RowC w p1 J.s1 ∧ RowC w p2 J.was
theorem RowC.nil (w : World) : RowC w (none, 0) [] := ⟨Nat.le_refl _, rfl, by decide, fun h => absurd h (by decide)⟩
theorem RowC.below {w w' : World} {p : Option Addr × Nat} {l : List Int} (h : RowC w p l) (hb : Below w.heap.size w w') : RowC w' p l := ⟨h.1, Kd.C_below h.2 hb⟩
theorem Jn.ok.below {w w' : World} {J : Jn} {p0 p1 p2 : Option Addr × Nat} (h : Jn.ok w J p0 p1 p2) (hb : Below w.heap.size w w') : Jn.ok w' J p0 p1 p2 := ⟨h.1.below hb, h.2.1.below hb, h.2.2.below hb⟩
theorem From_calls (pa pb : Option Addr × Nat) (a b : List Int) (w : World) (ha : RowC w pa a) (hb : RowC w pb b) (hal : a.length < 17592186044416) (hbl : b.length < 17592186044416) :
    Calls Tryd.prog 16 #[.slice pa.1 a.length pa.2, .slice pb.1 b.length pb.2] w fun e w' => ∃ p0 p1, e = .returned (.agg (Jn.cells ⟨a, b, 0, [], false⟩ p0 p1 (none, 0)).toArray) ∧ Jn.ok w' ⟨a, b, 0, [], false⟩ p0 p1 (none, 0) ∧ Below w.heap.size w w' := by
  refine enter (w0 := w) (hp := [old w]) (env := [(0, .slice pa.1 a.length pa.2), (1, .slice pb.1 b.length pb.2)]) Tryd.func16 rfl 11 rfl (by simp) rfl (HeapOK.start _) ?_
  refine wc_seq ?_
  refine wc_region ?_
  refine wl_alloc rfl rfl rfl (by decide) Zr38 (fun b1 => ?_)
  refine wl_nil ?_
  refine fq_then ?_
  refine wc_seq ?_
  refine wc_region ?_
  refine wl_q (q_move rfl rfl) rfl rfl (by decide) ?_
  refine wl_call (ι := Option Addr × Nat) (fun i => .slice i.1 a.length i.2) (fun i => .own 0 5 1 (.slice i.1 a.length i.2) a.length (nums .u8 a) :: _) (fun i => a.length ≤ i.2) rfl rfl rfl (by decide) En39 rfl (fun w1 hw1 => cloneb_calls hw1 (Kd.C_below ha.2 (hw1.toBelow (by simp))) ha.1 (by omega)) (fun p0 hp0 => ?_)
  refine wl_q (q_move rfl rfl) rfl rfl (by decide) ?_
  refine wl_call (ι := Option Addr × Nat) (fun i => .slice i.1 b.length i.2) (fun i => .own 0 5 1 (.slice i.1 b.length i.2) b.length (nums .u8 b) :: _) (fun i => b.length ≤ i.2) rfl rfl rfl (by decide) En39 rfl (fun w1 hw1 => cloneb_calls hw1 (Kd.C_below hb.2 (hw1.toBelow (by simp))) hb.1 (by omega)) (fun p1 hp1 => ?_)
  refine wl_q (q_build rfl rfl (built_of Zr36 Pl36 (by simp only [fillL, List.map_cons, List.map_nil, Value.cells, List.getElem?_cons_zero, List.getElem?_cons_succ, List.length_cons, List.length_nil, Nat.reduceAdd, Nat.reduceLeDiff, Nat.le_refl, and_self, and_true, true_and, if_true, Nat.zero_add, spl, List.take_succ_cons, List.take_zero, List.take_nil, List.drop_succ_cons, List.drop_zero, List.drop_nil, List.nil_append, List.cons_append, List.append_nil]; rfl))) rfl rfl (by decide) ?_
  refine wl_q (q_build rfl rfl (built_of Zr38 Pl38 (by simp only [fillL, List.map_cons, List.map_nil, Value.cells, List.getElem?_cons_zero, List.getElem?_cons_succ, List.length_cons, List.length_nil, Nat.reduceAdd, Nat.reduceLeDiff, Nat.le_refl, and_self, and_true, true_and, if_true, Nat.zero_add, spl, List.take_succ_cons, List.take_zero, List.take_nil, List.drop_succ_cons, List.drop_zero, List.drop_nil, List.nil_append, List.cons_append, List.append_nil]; rfl))) rfl rfl (by decide) ?_
  refine wl_store (i := 2) rfl rfl rfl rfl rfl rfl Sz38 rfl rfl (by simp) (by simp [Value.oneCell']) (by first | (simp only [List.take_succ_cons, List.take_zero, List.take_nil, List.drop_succ_cons, List.drop_zero, List.drop_nil, List.nil_append, List.cons_append, List.append_nil, List.length_cons, List.length_nil, Nat.reduceAdd, Nat.zero_add]; rfl) | rfl) (by first | (simp only [List.set_cons_zero, List.set_cons_succ]; rfl) | rfl) ?_
  refine wl_nil ?_
  refine fq_then ?_
  refine wc_ret ?_
  refine fq_cell (i := 2) (.inl rfl) rfl rfl rfl Mn38 Sz38 rfl (fun w1 H => ?_)
  exact ⟨p0, p1, rfl, ⟨⟨hp0, C_of_own (H.get (i := 1) rfl) (by show a.length ≤ _; omega)⟩, ⟨hp1, C_of_own (H.get (i := 0) rfl) (by show b.length ≤ _; omega)⟩, RowC.nil _⟩, H.toBelow (by simp)⟩
end Go.Proofs.YtbcijmpkmmcdeaaDoor.SF
end
section
namespace Go.Sx
open Go.RowKit
set_option linter.unusedVariables false
set_option linter.unusedSimpArgs false
def gset {ι : Type} (X : Nat → ι) (p : Nat) (x : ι) : Nat → ι := fun q => bif Nat.beq q p then x else X q
theorem gset_self {ι : Type} (X : Nat → ι) (p : Nat) (x : ι) : gset X p x p = x := by simp [gset]
theorem gset_other {ι : Type} (X : Nat → ι) (p : Nat) (x : ι) {q : Nat} (h : q ≠ p) : gset X p x q = X q := by
  unfold gset
  cases hb : Nat.beq q p with
  | false => rfl
  | true => exact absurd (Nat.eq_of_beq_eq_true hb) h
structure Sp (ι : Type) where
  d : Option Nat
  v : (Nat → ι) → Value
  U : List Nat
  R : List Nat
  D : List Nat
def tk {ι : Type} : List (Nat × ((Nat → ι) → List Item)) → Nat → (Nat → ι) → List Item
  | [], _, _ => []
  | (q, f) :: r, p, X => bif Nat.beq p q then f X else tk r p X
def tf {ι : Type} (TL : List (Nat × ((Nat → ι) → List Item))) (m : Nat) (hp : List Item) (X : Nat → ι) (p : Nat) : List Item := bif Nat.blt p m then tk TL p X else (hp[p - m]?).toList
def Sp.bind {ι : Type} (s : Sp ι) (X : Nat → ι) : Env := match s.d with | some d => [(d, s.v X)] | none => []
def LocG {ι : Type} (i : Nat) (D : List Nat) (v : (Nat → ι) → Value) (T : (Nat → ι) → List Item) : Prop := ∀ X X' : Nat → ι, X i = X' i → (∀ q ∈ D, X q = X' q) → v X = v X' ∧ T X = T X'
def SpE {ι : Type} (P : Program) (w0 : World) (hp : List Item) (m ny : Nat) (TL : List (Nat × ((Nat → ι) → List Item))) (i : Nat) (o : Oper) (E : (Nat → ι) → Env) (v : (Nat → ι) → Value) (U R : List Nat) : Prop :=
  ∀ X, OpE P o (E X) w0 (hp.drop ny) ((U ++ R).flatMap (tf TL m hp X)) (fun x => v (gset X i x)) (fun x => tk TL i (gset X i x) ++ R.flatMap (tf TL m hp X))
inductive ChainG {ι : Type} (P : Program) (w0 : World) (hp : List Item) (m ny : Nat) (ops : Array Oper) (TL : List (Nat × ((Nat → ι) → List Item))) : Nat → List Oper → ((Nat → ι) → Env) → List (Sp ι) → ((Nat → ι) → Env) → Prop
  | nil (i : Nat) (E : (Nat → ι) → Env) : ChainG P w0 hp m ny ops TL i [] E [] E
  | op {i : Nat} {o : Oper} {l : List Oper} {E Ef : (Nat → ι) → Env} {S : List (Sp ι)} {d : Nat} (v : (Nat → ι) → Value) (U R D : List Nat)
      (hq : SpE P w0 hp m ny TL i o E v U R) (hg : o.guard = none) (hd : o.dst = some d) (hl : LocG i D v (tk TL i))
      (k : ChainG P w0 hp m ny ops TL (i + 1) l (fun X => (d, v X) :: E X) S Ef) : ChainG P w0 hp m ny ops TL i (o :: l) E (⟨some d, v, U, R, D⟩ :: S) Ef
  | eff {i : Nat} {o : Oper} {l : List Oper} {E Ef : (Nat → ι) → Env} {S : List (Sp ι)} (v : (Nat → ι) → Value) (U R D : List Nat)
      (hq : SpE P w0 hp m ny TL i o E v U R) (hg : o.guard = none) (hd : o.dst = none) (hl : LocG i D v (tk TL i))
      (k : ChainG P w0 hp m ny ops TL (i + 1) l E S Ef) : ChainG P w0 hp m ny ops TL i (o :: l) E (⟨none, v, U, R, D⟩ :: S) Ef
  | want {i : Nat} {o : Oper} {l : List Oper} {E Ef : (Nat → ι) → Env} {S : List (Sp ι)} {d j tj : Nat} {b : Bool} (v : (Nat → ι) → Value) (U R D : List Nat)
      (hq : SpE P w0 hp m ny TL i o E v U R) (hg : o.guard = some (j, b)) (hj : (ops[j]?).bind (·.dst) = some tj) (hb : ∀ X, look tj (E X) = some (.bool b)) (hd : o.dst = some d) (hl : LocG i D v (tk TL i))
      (k : ChainG P w0 hp m ny ops TL (i + 1) l (fun X => (d, v X) :: E X) S Ef) : ChainG P w0 hp m ny ops TL i (o :: l) E (⟨some d, v, U, R, D⟩ :: S) Ef
  | skip {i : Nat} {o : Oper} {l : List Oper} {E Ef : (Nat → ι) → Env} {S : List (Sp ι)} {d j tj : Nat} {b : Bool} (hg : o.guard = some (j, !b)) (hj : (ops[j]?).bind (·.dst) = some tj) (hb : ∀ X, look tj (E X) = some (.bool b)) (hd : o.dst = some d) (ht : ∀ X, tk TL i X = [])
      (k : ChainG P w0 hp m ny ops TL (i + 1) l (fun X => (d, undef) :: E X) S Ef) : ChainG P w0 hp m ny ops TL i (o :: l) E (⟨some d, fun _ => undef, [], [], []⟩ :: S) Ef
  | skipU {i : Nat} {o : Oper} {l : List Oper} {E Ef : (Nat → ι) → Env} {S : List (Sp ι)} {d j tj : Nat} {b : Bool} (hg : o.guard = some (j, b)) (hj : (ops[j]?).bind (·.dst) = some tj) (hb : ∀ X, look tj (E X) = some undef) (hd : o.dst = some d) (ht : ∀ X, tk TL i X = [])
      (k : ChainG P w0 hp m ny ops TL (i + 1) l (fun X => (d, undef) :: E X) S Ef) : ChainG P w0 hp m ny ops TL i (o :: l) E (⟨some d, fun _ => undef, [], [], []⟩ :: S) Ef
theorem unwanted_of {ops : Array Oper} {o : Oper} {a : Act} {j tj : Nat} {b : Bool} {x : Value} (hg : o.guard = some (j, b)) (hj : (ops[j]?).bind (·.dst) = some tj) (hx : x = .bool (!b) ∨ x = undef) (h1 : a.tmps.getD tj undef = x) : Region.wanted o (yielded ops a.tmps) = false := by
  rcases hx with rfl | rfl
  · rw [wanted_of hg hj h1]; cases b <;> rfl
  · have h2 : a.tmps[tj]?.getD undef = undef := by rw [← Array.getD_eq_getD_getElem?]; exact h1
    simp only [Region.wanted, hg, yielded, hj]
    cases hx : a.tmps[tj]? with
    | none => simp [hx]
    | some x => rw [hx] at h2; simp at h2; subst h2; simp [hx, undef]
def PartG {ι : Type} (P : Program) (w0 : World) (hp : List Item) (m ny : Nat) (ops : Array Oper) (TL : List (Nat × ((Nat → ι) → List Item))) (i : Nat) (o : Oper) (s : Sp ι) (E : (Nat → ι) → Env) : Prop :=
  (o.guard = none ∧ SpE P w0 hp m ny TL i o E s.v s.U s.R) ∨ (∃ j tj b, o.guard = some (j, b) ∧ (ops[j]?).bind (·.dst) = some tj ∧ (∀ X, look tj (E X) = some (.bool b)) ∧ SpE P w0 hp m ny TL i o E s.v s.U s.R) ∨
  (∃ j tj b x, o.guard = some (j, b) ∧ (ops[j]?).bind (·.dst) = some tj ∧ (x = .bool (!b) ∨ x = undef) ∧ (∀ X, look tj (E X) = some x) ∧ (∀ X, s.v X = undef) ∧ s.U = [] ∧ s.R = [] ∧ ∀ X, tk TL i X = [])
section
variable {P : Program} {ops : Array Oper} {Q : Exit → Act → World → Prop} {w0 : World} {N : Fr} {l : List Oper} {env : Env} {hp : List Item} {o : Oper} {m ny : Nat}
theorem OpQ.toE {ι : Type} {v : Value} {Z : List Item} (h : OpQ P o env w0 (Z ++ hp) v) [Nonempty ι] : OpE (ι := ι) P o env w0 hp Z (fun _ => v) (fun _ => Z) := by
  intro R a w he hh
  have := h a w he (hh.sub (List.Sublist.append_left (List.sublist_append_right _ _) Z))
  generalize (execOp a.eval o).run P w = r at this
  cases r with
  | halt x w' => exact this.elim
  | ok n w' =>
    cases n <;> try exact this.elim
    · obtain ⟨rfl, hb⟩ := this
      exact ⟨Classical.choice ‹_›, rfl, hh.below hb⟩
    · exact Calls.mono this (fun e w'' ⟨h1, h2⟩ => ⟨Classical.choice ‹_›, h1, hh.below h2⟩)
theorem OpE.gmap {ι κ : Type} {X : List Item} {v : κ → Value} {X' : κ → List Item} (h : OpE P o env w0 hp X v X') (f : ι → κ) (g : κ → ι) (hfg : ∀ k, f (g k) = k) : OpE P o env w0 hp X (fun x => v (f x)) (fun x => X' (f x)) := by
  intro R a w he hh
  have := h R a w he hh
  generalize (execOp a.eval o).run P w = r at this
  cases r with
  | halt x w' => exact this.elim
  | ok n w' =>
    cases n <;> try exact this.elim
    · obtain ⟨x, h1, h2⟩ := this
      exact ⟨g x, by simp only [hfg]; exact h1, by simp only [hfg]; exact h2⟩
    · obtain ⟨x, h1, h2⟩ := this
      exact ⟨g x, by simp only [hfg]; exact h1, by simp only [hfg]; exact h2⟩
    · exact Calls.mono this (fun e w'' ⟨x, h1, h2⟩ => ⟨g x, by simp only [hfg]; exact h1, by simp only [hfg]; exact h2⟩)
variable {ι : Type} {TL : List (Nat × ((Nat → ι) → List Item))} {i : Nat} {E Ef : (Nat → ι) → Env} {S : List (Sp ι)}
theorem ChainG.yield [Nonempty ι] {d : Nat} {v : (Nat → ι) → Value} (R D : List Nat) (hq : ∀ X, OpQ P o (E X) w0 (R.flatMap (tf TL m hp X) ++ hp.drop ny) (v X)) (hg : o.guard = none) (hd : o.dst = some d) (ht : ∀ X, tk TL i X = []) (hv : ∀ X x, v (gset X i x) = v X) (hl : LocG i D v (fun _ => []))
    (k : ChainG P w0 hp m ny ops TL (i + 1) l (fun X => (d, v X) :: E X) S Ef) : ChainG P w0 hp m ny ops TL i (o :: l) E (⟨some d, v, [], R, D⟩ :: S) Ef :=
  .op v [] R D (fun X => by
    have h := (hq X).toE (ι := ι)
    simp only [hv, ht]
    exact h) hg hd (fun X X' h1 h2 => ⟨(hl X X' h1 h2).1, by rw [ht, ht]⟩) k
theorem ChainG.wantq [Nonempty ι] {d j tj : Nat} {b : Bool} {v : (Nat → ι) → Value} (R D : List Nat) (hq : ∀ X, OpQ P o (E X) w0 (R.flatMap (tf TL m hp X) ++ hp.drop ny) (v X)) (hg : o.guard = some (j, b)) (hj : (ops[j]?).bind (·.dst) = some tj) (hb : ∀ X, look tj (E X) = some (.bool b)) (hd : o.dst = some d) (ht : ∀ X, tk TL i X = []) (hv : ∀ X x, v (gset X i x) = v X) (hl : LocG i D v (fun _ => []))
    (k : ChainG P w0 hp m ny ops TL (i + 1) l (fun X => (d, v X) :: E X) S Ef) : ChainG P w0 hp m ny ops TL i (o :: l) E (⟨some d, v, [], R, D⟩ :: S) Ef :=
  .want v [] R D (fun X => by
    have h := (hq X).toE (ι := ι)
    simp only [hv, ht]
    exact h) hg hj hb hd (fun X X' h1 h2 => ⟨(hl X X' h1 h2).1, by rw [ht, ht]⟩) k
theorem ChainG.store [Nonempty ι] {T : (Nat → ι) → List Item} (U D : List Nat) (hq : ∀ X, OpE (ι := Unit) P o (E X) w0 (hp.drop ny) (U.flatMap (tf TL m hp X)) (fun _ => undef) (fun _ => T X)) (hg : o.guard = none) (hd : o.dst = none) (ht : ∀ X, tk TL i X = T X) (hT : ∀ X x, T (gset X i x) = T X) (hl : LocG i D (fun _ => undef) (tk TL i))
    (k : ChainG P w0 hp m ny ops TL (i + 1) l E S Ef) : ChainG P w0 hp m ny ops TL i (o :: l) E (⟨none, fun _ => undef, U, [], D⟩ :: S) Ef :=
  .eff (fun _ => undef) U [] D (fun X => by
    have h := (hq X).gmap (ι := ι) (fun _ => ()) (fun _ => Classical.choice ‹_›) (fun _ => rfl)
    simp only [ht, hT, List.append_nil, List.flatMap_nil]
    exact h) hg hd (fun X X' h1 h2 => ⟨rfl, (hl X X' h1 h2).2⟩) k
theorem ChainG.ope {d : Nat} (v : (Nat → ι) → Value) (U D : List Nat) (hq : ∀ X, OpE P o (E X) w0 (hp.drop ny) (U.flatMap (tf TL m hp X)) (fun x => v (gset X i x)) (fun x => tk TL i (gset X i x))) (hg : o.guard = none) (hd : o.dst = some d) (hl : LocG i D v (tk TL i))
    (k : ChainG P w0 hp m ny ops TL (i + 1) l (fun X => (d, v X) :: E X) S Ef) : ChainG P w0 hp m ny ops TL i (o :: l) E (⟨some d, v, U, [], D⟩ :: S) Ef :=
  .op v U [] D (fun X => by
    simp only [List.append_nil, List.flatMap_nil]
    exact hq X) hg hd hl k
theorem oe_storeAt {T T' : TypeId} {x y : Operand} {b off n i : Nat} {cs vs cs' : List Value} {v : Value} {X X' : List Item} (ho : o.op = .store T x y) (hx : evE x env = some (.pointer (some ⟨b, off, none⟩))) (hy : evE y env = some v) (hi : X[i]? = some (.blk b cs T'))
    (hs : P.sizeIs T = some n) (hv : v.cells = vs.toArray) (hn : vs.length = n) (hfit : off + n ≤ cs.length) (h1 : ∀ u ∈ vs, u.oneCell' = true) (hc : cs.take off ++ vs ++ cs.drop (off + vs.length) = cs') (hX : X.set i (.blk b cs' T') = X') : OpE P o env w0 hp X (fun _ : Unit => undef) (fun _ => X') := by
  subst hc hX
  intro R a w he hh
  have hil := (List.getElem?_eq_some_iff.1 hi).1
  have hi2 : (X ++ (R ++ hp))[i]? = some (.blk b cs T') := by rw [List.getElem?_append_left hil]; exact hi
  have hb := hh.get hi2
  have hr := run_storeCells_at P b off T' vs 0 cs.toArray w hb (by simp; omega) h1
  unfold execOp
  simp only [ho, ev_of he hx, ev_of he hy, Instr.storeAt, Instr.sureAddr, storeVar, Sem.run_bind, Sem.run_pure, Result.andThen_ok, hv, List.size_toArray, run_sizeOf hs, hn, ne_eq, not_true, if_false, hr]
  refine ⟨(), rfl, ?_⟩
  have := hh.setRow hi2 (cs' := cs.take off ++ vs ++ cs.drop (off + vs.length))
  rw [List.set_append_left _ _ hil] at this
  simpa [hn] using this
theorem ChainG.spec {n : Nat} (h : ChainG P w0 hp m ny ops TL n l E S Ef) :
    S.length = l.length ∧ (∀ X, Ef X = S.reverse.flatMap (·.bind X) ++ E X) ∧ ∀ i o, l[i]? = some o → ∃ s, S[i]? = some s ∧ o.dst = s.d ∧ LocG (n + i) s.D s.v (tk TL (n + i)) ∧ PartG P w0 hp m ny ops TL (n + i) o s (fun X => (S.take i).reverse.flatMap (·.bind X) ++ E X) := by
  have key : ∀ {n : Nat} {o : Oper} {l : List Oper} {E E' Ef : (Nat → ι) → Env} {S : List (Sp ι)} {s : Sp ι}, (∀ X, E' X = s.bind X ++ E X) → o.dst = s.d → LocG n s.D s.v (tk TL n) → PartG P w0 hp m ny ops TL n o s E →
      (S.length = l.length ∧ (∀ X, Ef X = S.reverse.flatMap (·.bind X) ++ E' X) ∧ ∀ i o, l[i]? = some o → ∃ s, S[i]? = some s ∧ o.dst = s.d ∧ LocG (n + 1 + i) s.D s.v (tk TL (n + 1 + i)) ∧ PartG P w0 hp m ny ops TL (n + 1 + i) o s (fun X => (S.take i).reverse.flatMap (·.bind X) ++ E' X)) →
      (s :: S).length = (o :: l).length ∧ (∀ X, Ef X = (s :: S).reverse.flatMap (·.bind X) ++ E X) ∧ ∀ i o', (o :: l)[i]? = some o' → ∃ s', (s :: S)[i]? = some s' ∧ o'.dst = s'.d ∧ LocG (n + i) s'.D s'.v (tk TL (n + i)) ∧ PartG P w0 hp m ny ops TL (n + i) o' s' (fun X => ((s :: S).take i).reverse.flatMap (·.bind X) ++ E X) := by
    intro n o l E E' Ef S s hE hd hl hp_ ⟨h1, h2, h3⟩
    refine ⟨by simp [h1], fun X => by rw [h2, hE]; simp, fun i o' hi => ?_⟩
    cases i with
    | zero =>
      cases hi
      refine ⟨s, rfl, hd, hl, ?_⟩
      simpa using hp_
    | succ i =>
      obtain ⟨s', a1, a2, a3, a4⟩ := h3 i o' (by simpa using hi)
      rw [Nat.add_assoc, Nat.add_comm 1 i] at a3 a4
      refine ⟨s', by simpa using a1, a2, a3, ?_⟩
      have : (fun X => ((s :: S).take (i + 1)).reverse.flatMap (·.bind X) ++ E X) = fun X => (S.take i).reverse.flatMap (·.bind X) ++ E' X := by
        funext X; rw [hE]; simp
      rw [this]
      exact a4
  induction h with
  | nil i E => exact ⟨rfl, fun X => rfl, fun i o h => by simp at h⟩
  | op v U R D hq hg hd hl k ih => exact key (fun X => rfl) hd hl (.inl ⟨hg, hq⟩) ih
  | eff v U R D hq hg hd hl k ih => exact key (fun X => rfl) hd hl (.inl ⟨hg, hq⟩) ih
  | want v U R D hq hg hj hb hd hl k ih => exact key (fun X => rfl) hd hl (.inr (.inl ⟨_, _, _, hg, hj, hb, hq⟩)) ih
  | skip hg hj hb hd ht k ih => exact key (fun X => rfl) hd (fun X X' _ _ => ⟨rfl, by rw [ht, ht]⟩) (.inr (.inr ⟨_, _, _, _, hg, hj, .inl (by rw [Bool.not_not]), hb, fun _ => rfl, rfl, rfl, ht⟩)) ih
  | skipU hg hj hb hd ht k ih => exact key (fun X => rfl) hd (fun X X' _ _ => ⟨rfl, by rw [ht, ht]⟩) (.inr (.inr ⟨_, _, _, _, hg, hj, .inr rfl, hb, fun _ => rfl, rfl, rfl, ht⟩)) ih
end
section
variable {P : Program} {ops : Array Oper} {Q : Exit → Act → World → Prop} {w0 : World} {N : Fr} {l : List Oper} {env : Env} {hp : List Item} {o : Oper}
structure UR where
  U : List Nat
  R : List Nat
  D : List Nat
def okG (ol : List Oper) (m ny N : Nat) (UD : List UR) : Bool :=
  let ms := masksOf ol []
  ((List.range ol.length).all fun i => ((ol[i]?).map fun o => o.after.all fun e => !Region.binds .any e || decide (e.on < i)).getD true) &&
  (((List.range m).all fun i => match ol[i]? with
    | some o => selB o && ((match o.dst with | some d => decide (d < N) | none => true) &&
      (((UD.getD i ⟨[], [], []⟩).D.all (fun q => decide (q < i) && (ms.getD i 0).testBit q)) &&
      ((((UD.getD i ⟨[], [], []⟩).U ++ (UD.getD i ⟨[], [], []⟩).R).all (fun q => (decide (q < i) && (ms.getD i 0).testBit q) || (decide (m ≤ q) && decide (q < m + ny)))) &&
      (decide ((UD.getD i ⟨[], [], []⟩).U ++ (UD.getD i ⟨[], [], []⟩).R).Nodup &&
      (List.range m).all fun j => match ol[j]? with
        | some o' => (match o'.dst with
          | some t => (decide (i = j) || o.dst != some t) && (!(o.looksAt ol.toArray).contains t || ((decide (j < i) && (ms.getD i 0).testBit j) || (decide (i < j) && (ms.getD j 0).testBit i)))
          | none => true) && ((UD.getD i ⟨[], [], []⟩).R.all fun q => !((UD.getD j ⟨[], [], []⟩).U.contains q) || (ms.getD j 0).testBit i)
        | none => false))))
    | none => false) &&
  (((List.range (ol.length - m)).all fun k => (List.range (m + k)).all fun j => (ms.getD (m + k) 0).testBit j) && decide ((UD.flatMap (·.U)).Nodup)))
structure OkG (ol : List Oper) (m ny N : Nat) (UD : List UR) : Prop where
  on : (List.range ol.toArray.size).all (fun i => ((ol.toArray[i]?).map fun o => o.after.all fun e => !Region.binds .any e || decide (e.on < i)).getD true) = true
  sel : ∀ i o, i < m → ol[i]? = some o → ∀ cs b, o.op ≠ .select cs b
  lt : ∀ i o d, i < m → ol[i]? = some o → o.dst = some d → d < N
  dep : ∀ i q, i < m → q ∈ (UD.getD i ⟨[], [], []⟩).D → q < i ∧ ((masksOf ol []).getD i 0).testBit q = true
  use : ∀ i q, i < m → q ∈ (UD.getD i ⟨[], [], []⟩).U ++ (UD.getD i ⟨[], [], []⟩).R → (q < i ∧ ((masksOf ol []).getD i 0).testBit q = true) ∨ (m ≤ q ∧ q < m + ny)
  und : ∀ i, i < m → ((UD.getD i ⟨[], [], []⟩).U ++ (UD.getD i ⟨[], [], []⟩).R).Nodup
  read : ∀ i j q, i < m → j < m → q ∈ (UD.getD i ⟨[], [], []⟩).R → q ∈ (UD.getD j ⟨[], [], []⟩).U → ((masksOf ol []).getD j 0).testBit i = true
  uniq : ∀ i j o o' d, i < m → j < m → ol[i]? = some o → ol[j]? = some o' → o.dst = some d → o'.dst = some d → i = j
  reads : ∀ i j o o' t, i < m → j < m → ol[i]? = some o → ol[j]? = some o' → o'.dst = some t → t ∈ o.looksAt ol.toArray → (j < i ∧ ((masksOf ol []).getD i 0).testBit j = true) ∨ (i < j ∧ ((masksOf ol []).getD j 0).testBit i = true)
  late : ∀ i j, m ≤ i → i < ol.length → j < i → ((masksOf ol []).getD i 0).testBit j = true
  m_le : ∀ i, i < m → ∃ o, ol[i]? = some o
  nodup : (UD.flatMap (·.U)).Nodup
theorem okG_spec {ol : List Oper} {m ny N : Nat} {UD : List UR} (h : okG ol m ny N UD = true) : OkG ol m ny N UD := by
  simp only [okG, Bool.and_eq_true, decide_eq_true_eq] at h
  obtain ⟨h1, h2, h3, h4⟩ := h
  have key : ∀ i o, i < m → ol[i]? = some o → selB o = true ∧ (∀ d, o.dst = some d → d < N) ∧ (∀ q, q ∈ (UD.getD i ⟨[], [], []⟩).D → q < i ∧ ((masksOf ol []).getD i 0).testBit q = true) ∧
      (∀ q, q ∈ (UD.getD i ⟨[], [], []⟩).U ++ (UD.getD i ⟨[], [], []⟩).R → (q < i ∧ ((masksOf ol []).getD i 0).testBit q = true) ∨ (m ≤ q ∧ q < m + ny)) ∧ ((UD.getD i ⟨[], [], []⟩).U ++ (UD.getD i ⟨[], [], []⟩).R).Nodup ∧
      ∀ j o', j < m → ol[j]? = some o' → (∀ q, q ∈ (UD.getD i ⟨[], [], []⟩).R → q ∈ (UD.getD j ⟨[], [], []⟩).U → ((masksOf ol []).getD j 0).testBit i = true) ∧
        ∀ t, o'.dst = some t → (i = j ∨ o.dst ≠ some t) ∧ (t ∈ o.looksAt ol.toArray → (j < i ∧ ((masksOf ol []).getD i 0).testBit j = true) ∨ (i < j ∧ ((masksOf ol []).getD j 0).testBit i = true)) := by
    intro i o hi ho
    have := List.all_eq_true.1 h2 i (List.mem_range.2 hi)
    rw [ho] at this
    simp only [Bool.and_eq_true, decide_eq_true_eq] at this
    obtain ⟨hs, hd, hdep, huse, hund, hj⟩ := this
    refine ⟨hs, fun d e => by rw [e] at hd; simpa using hd, fun q hq => ?_, fun q hq => ?_, hund, fun j o' hjm ho' => ?_⟩
    · have := List.all_eq_true.1 hdep q hq
      simpa [Bool.and_eq_true, decide_eq_true_eq] using this
    · have := List.all_eq_true.1 huse q hq
      simpa only [Bool.or_eq_true, Bool.and_eq_true, decide_eq_true_eq] using this
    · have := List.all_eq_true.1 hj j (List.mem_range.2 hjm)
      rw [ho'] at this
      simp only [Bool.and_eq_true] at this
      obtain ⟨ha, hb⟩ := this
      refine ⟨fun q hq hqU => ?_, fun t hd' => ?_⟩
      · have := List.all_eq_true.1 hb q hq
        rw [List.contains_iff_mem.2 hqU] at this
        simpa using this
      · simp only [hd', Bool.and_eq_true, Bool.or_eq_true, decide_eq_true_eq, bne_iff_ne, Bool.not_eq_true'] at ha
        refine ⟨ha.1, fun hl => ?_⟩
        rcases ha.2 with h6 | h6
        · rw [List.contains_iff_mem.2 hl] at h6; cases h6
        · exact h6
  have ex : ∀ i, i < m → ∃ o, ol[i]? = some o := by
    intro i hi
    have := List.all_eq_true.1 h2 i (List.mem_range.2 hi)
    cases ho : ol[i]? with
    | none => rw [ho] at this; cases this
    | some o => exact ⟨o, rfl⟩
  refine ⟨by simpa using h1, ?_, ?_, ?_, ?_, ?_, ?_, ?_, ?_, ?_, ex, h4⟩
  · intro i o hi ho cs b e
    have := (key i o hi ho).1
    simp [selB, e] at this
  · exact fun i o d hi ho hd => (key i o hi ho).2.1 d hd
  · intro i q hi hq
    obtain ⟨o, ho⟩ := ex i hi
    exact (key i o hi ho).2.2.1 q hq
  · intro i q hi hq
    obtain ⟨o, ho⟩ := ex i hi
    exact (key i o hi ho).2.2.2.1 q hq
  · intro i hi
    obtain ⟨o, ho⟩ := ex i hi
    exact (key i o hi ho).2.2.2.2.1
  · intro i j q hi hj hq hq'
    obtain ⟨o, ho⟩ := ex i hi
    obtain ⟨o', ho'⟩ := ex j hj
    exact ((key i o hi ho).2.2.2.2.2 j o' hj ho').1 q hq hq'
  · intro i j o o' d hi hj ho ho' hd hd'
    rcases (((key i o hi ho).2.2.2.2.2 j o' hj ho').2 d hd').1 with h | h
    · exact h
    · exact absurd hd h
  · exact fun i j o o' t hi hj ho ho' hd hl => (((key i o hi ho).2.2.2.2.2 j o' hj ho').2 t hd).2 hl
  · intro i j hi hl hj
    have := List.all_eq_true.1 h3 (i - m) (List.mem_range.2 (by omega))
    have := List.all_eq_true.1 this j (List.mem_range.2 (by omega))
    rwa [show m + (i - m) = i by omega] at this
theorem nodup_flat {α β : Type} {f : α → List β} : ∀ {l : List α}, (l.flatMap f).Nodup → (∀ (i : Nat) (x : α), l[i]? = some x → (f x).Nodup) ∧ ∀ (i j : Nat) (x y : α) (b : β), l[i]? = some x → l[j]? = some y → b ∈ f x → b ∈ f y → i = j
  | [], _ => ⟨fun i x h => by simp at h, fun i j x y b h => by simp at h⟩
  | x :: l, h => by
    rw [List.flatMap_cons, List.nodup_append] at h
    obtain ⟨h1, h2, h3⟩ := h
    obtain ⟨i1, i2⟩ := nodup_flat h2
    refine ⟨fun i y hy => ?_, fun i j y z b hy hz hb hb' => ?_⟩
    · cases i with
      | zero => cases hy; exact h1
      | succ i => exact i1 i y (by simpa using hy)
    · cases i with
      | zero =>
        cases hy
        cases j with
        | zero => rfl
        | succ j => exact absurd rfl (h3 b hb b (List.mem_flatMap.2 ⟨z, List.mem_of_getElem? (by simpa using hz), hb'⟩))
      | succ i =>
        cases j with
        | zero => cases hz; exact absurd rfl (h3 b hb' b (List.mem_flatMap.2 ⟨y, List.mem_of_getElem? (by simpa using hy), hb⟩))
        | succ j => rw [i2 i j y z b (by simpa using hy) (by simpa using hz) hb hb']
theorem take_pick {hp : List Item} {m : Nat} : ∀ (n : Nat), n ≤ hp.length → ((List.range n).map (m + ·)).flatMap (fun p => (hp[p - m]?).toList) = hp.take n
  | 0, _ => rfl
  | n + 1, h => by
    rw [List.range_succ, List.map_append, List.flatMap_append, take_pick n (by omega), List.take_add_one]
    simp
theorem any_drawG {ι : Type} [Nonempty ι] {ol : List Oper} {S : List (Sp ι)} {Ef : (Nat → ι) → Env} {hp0 : List Item} (m ny : Nat) (TL : List (Nat × ((Nat → ι) → List Item))) (UD : List UR) (hok : okG ol m ny N UD = true)
    (hc : ChainG P w0 hp0 m ny ol.toArray TL 0 (ol.take m) (fun _ => env) S Ef) (hUD : S.map (fun s => (⟨s.U, s.R, s.D⟩ : UR)) = UD) (hny : decide (ny ≤ hp0.length) = true)
    (L : (Nat → ι) → List Item) (hL : ∀ X, ((List.range (m + ny)).filter (fun q => !(UD.any (fun u => u.U.contains q)))).flatMap (tf TL m hp0 X) ++ hp0.drop ny = L X)
    (k : ∀ X : Nat → ι, WL P ol.toArray Q w0 N (ol.drop m) (Ef X) (L X)) : WA P ol Q w0 N env hp0 := by
  intro a w hh
  obtain ⟨hp, hhp⟩ : ∃ hp, hp = hp0.drop ny := ⟨_, rfl⟩
  have hny : ny ≤ hp0.length := by simpa using hny
  subst hUD
  have D := okG_spec hok
  obtain ⟨hlen, hEf, hspec⟩ := hc.spec
  have hml : m ≤ ol.length := by
    rcases Nat.eq_zero_or_pos m with h | h
    · omega
    · obtain ⟨o, ho⟩ := D.m_le (m - 1) (by omega)
      have := (List.getElem?_eq_some_iff.1 ho).1
      omega
  have hlen' : S.length = m := by rw [hlen, List.length_take]; omega
  have hget : ∀ i o, i < m → ol[i]? = some o → ∃ s, S[i]? = some s ∧ o.dst = s.d ∧ LocG i s.D s.v (tk TL i) ∧ PartG P w0 hp0 m ny ol.toArray TL i o s (fun X => (S.take i).reverse.flatMap (·.bind X) ++ env) := fun i o hi ho => by
    have := hspec i o (by rw [List.getElem?_take, if_pos hi]; exact ho)
    simpa only [Nat.zero_add] using this
  have hUDg : ∀ (i : Nat) (s : Sp ι), S[i]? = some s → (S.map (fun s => (⟨s.U, s.R, s.D⟩ : UR))).getD i ⟨[], [], []⟩ = ⟨s.U, s.R, s.D⟩ := fun i s hs => by
    rw [List.getD_eq_getElem?_getD, List.getElem?_map, hs]; rfl
  have hlt : ∀ (i : Nat) (s : Sp ι), S[i]? = some s → i < m := fun i s h => by have := (List.getElem?_eq_some_iff.1 h).1; omega
  have hdep : ∀ (i : Nat) (s : Sp ι) (q : Nat), S[i]? = some s → q ∈ s.D → q < i ∧ ((masksOf ol []).getD i 0).testBit q = true := fun i s q hs hq => D.dep i q (hlt i s hs) (by rw [hUDg i s hs]; exact hq)
  have huse : ∀ (i : Nat) (s : Sp ι) (q : Nat), S[i]? = some s → q ∈ s.U ++ s.R → (q < i ∧ ((masksOf ol []).getD i 0).testBit q = true) ∨ (m ≤ q ∧ q < m + ny) := fun i s q hs hq => D.use i q (hlt i s hs) (by rw [hUDg i s hs]; exact hq)
  have hURnd : ∀ (i : Nat) (s : Sp ι), S[i]? = some s → (s.U ++ s.R).Nodup := fun i s hs => by
    have := D.und i (hlt i s hs)
    rwa [hUDg i s hs] at this
  have hreadb : ∀ (i j : Nat) (s s' : Sp ι) (q : Nat), S[i]? = some s → S[j]? = some s' → q ∈ s.R → q ∈ s'.U → ((masksOf ol []).getD j 0).testBit i = true := fun i j s s' q hs hs' hq hq' => D.read i j q (hlt i s hs) (hlt j s' hs') (by rw [hUDg i s hs]; exact hq) (by rw [hUDg j s' hs']; exact hq')
  have hnd : (S.flatMap (·.U)).Nodup := by
    have := D.nodup
    rwa [List.flatMap_map] at this
  obtain ⟨hUnd, hUone⟩ := nodup_flat hnd
  have huniq : ∀ (i j : Nat) (s s' : Sp ι) (t : Nat), S[i]? = some s → S[j]? = some s' → s.d = some t → s'.d = some t → i = j := by
    intro i j s s' t hs hs' hd hd'
    have hi := hlt i s hs
    have hj := hlt j s' hs'
    obtain ⟨o, ho⟩ := D.m_le i hi
    obtain ⟨o', ho'⟩ := D.m_le j hj
    obtain ⟨s1, e1, e2, _⟩ := hget i o hi ho
    obtain ⟨s2, e3, e4, _⟩ := hget j o' hj ho'
    rw [hs] at e1; cases e1
    rw [hs'] at e3; cases e3
    exact D.uniq i j o o' t hi hj ho ho' (e2.trans hd) (e4.trans hd')
  have hloc : ∀ (i : Nat) (s : Sp ι), S[i]? = some s → LocG i s.D s.v (tk TL i) := by
    intro i s hs
    obtain ⟨o, ho⟩ := D.m_le i (hlt i s hs)
    obtain ⟨s1, e1, _, e2, _⟩ := hget i o (hlt i s hs) ho
    rw [hs] at e1; cases e1
    exact e2
  have hgood := masks_good ol ol [] rfl (fun i j h => by simp at h)
  let Dn (l : Array Bool) : Prop := ∀ i, (l.getD i false = true) → Afters ol (fun i => l.getD i false = true) i
  let dn (l : Array Bool) : List Nat := (List.range m).filter (fun q => l.getD q false)
  let bd (q : Nat) (X : Nat → ι) : Env := match S[q]? with | some s => s.bind X | none => []
  let Uq (p : Nat) : List Nat := match S[p]? with | some s => s.U | none => []
  let cm (l : Array Bool) (X : Nat → ι) : Env := (dn l).flatMap (fun q => bd q X)
  let us (l : Array Bool) (q : Nat) : Bool := (dn l).any (fun p => (Uq p).contains q)
  let av (l : Array Bool) : List Nat := (List.range (m + ny)).filter (fun q => decide (m ≤ q) || l.getD q false)
  let al (l : Array Bool) : List Nat := (av l).filter (fun q => !us l q)
  have memav : ∀ l q, q ∈ av l ↔ q < m + ny ∧ (m ≤ q ∨ l.getD q false = true) := fun l q => by
    show q ∈ List.filter _ _ ↔ _
    rw [List.mem_filter, List.mem_range, Bool.or_eq_true, decide_eq_true_eq]
  have memdn : ∀ l q, q ∈ dn l ↔ q < m ∧ l.getD q false = true := fun l q => by
    show q ∈ List.filter _ _ ↔ _
    rw [List.mem_filter, List.mem_range]
  have memcm : ∀ (l : Array Bool) (X : Nat → ι) (t : Nat) (y : Value), (t, y) ∈ cm l X ↔ ∃ (q : Nat) (s : Sp ι), l.getD q false = true ∧ S[q]? = some s ∧ s.d = some t ∧ y = s.v X := by
    intro l X t y
    show (t, y) ∈ List.flatMap _ _ ↔ _
    rw [List.mem_flatMap]
    constructor
    · rintro ⟨q, hq, hm⟩
      have hq := (memdn l q).1 hq
      cases hs : S[q]? with
      | none => simp only [bd, hs] at hm; cases hm
      | some s =>
        simp only [bd, hs, Sp.bind] at hm
        cases hd : s.d with
        | none => rw [hd] at hm; cases hm
        | some d =>
          rw [hd] at hm
          obtain ⟨rfl, rfl⟩ := Prod.mk.inj (List.mem_singleton.1 hm)
          exact ⟨q, s, hq.2, hs, hd, rfl⟩
    · rintro ⟨q, s, hl, hs, hd, rfl⟩
      refine ⟨q, (memdn l q).2 ⟨hlt q s hs, hl⟩, ?_⟩
      simp only [bd, hs, Sp.bind, hd]
      exact List.mem_singleton.2 rfl
  have memE : ∀ (i : Nat) (X : Nat → ι) (t : Nat) (y : Value), (t, y) ∈ (S.take i).reverse.flatMap (·.bind X) ↔ ∃ (q : Nat) (s : Sp ι), q < i ∧ S[q]? = some s ∧ s.d = some t ∧ y = s.v X := by
    intro i X t y
    rw [List.mem_flatMap]
    constructor
    · rintro ⟨s, hs, hm⟩
      rw [List.mem_reverse] at hs
      obtain ⟨q, hq1, hq2⟩ := List.mem_iff_getElem.1 hs
      have hqi : q < i := by simp at hq1; omega
      have hq : S[q]? = some s := by
        have : (S.take i)[q]? = some s := by rw [List.getElem?_eq_getElem hq1, hq2]
        rwa [List.getElem?_take, if_pos hqi] at this
      simp only [Sp.bind] at hm
      cases hd : s.d with
      | none => rw [hd] at hm; cases hm
      | some d =>
        rw [hd] at hm
        obtain ⟨rfl, rfl⟩ := Prod.mk.inj (List.mem_singleton.1 hm)
        exact ⟨q, s, hqi, hq, hd, rfl⟩
    · rintro ⟨q, s, hq, hs, hd, rfl⟩
      refine ⟨s, List.mem_reverse.2 (List.mem_of_getElem? (i := q) (by rw [List.getElem?_take, if_pos hq]; exact hs)), ?_⟩
      simp only [Sp.bind, hd]
      exact List.mem_singleton.2 rfl
  have inCm : ∀ (l : Array Bool) (X : Nat → ι) (B : Env) (q : Nat) (s : Sp ι) (t : Nat), l.getD q false = true → S[q]? = some s → s.d = some t → look t (cm l X ++ B) = some (s.v X) := fun l X B q s t hl hs hd => look_in ((memcm l X t _).2 ⟨q, s, hl, hs, hd, rfl⟩) (fun x hx => by
    obtain ⟨q', s', _, hs', hd', rfl⟩ := (memcm l X t x).1 hx
    have := huniq q q' s s' t hs hs' hd hd'
    subst this
    rw [hs] at hs'; cases hs'; rfl)
  have offCm : ∀ (l : Array Bool) (X : Nat → ι) (B : Env) (t : Nat), (∀ (q : Nat) (s : Sp ι), l.getD q false = true → S[q]? = some s → s.d ≠ some t) → look t (cm l X ++ B) = look t B := fun l X B t h => look_app (fun p hp e => by
    obtain ⟨pt, pv⟩ := p
    simp only at e
    subst e
    obtain ⟨q, s, hl, hs, hd, _⟩ := (memcm l X pt pv).1 hp
    exact h q s hl hs hd)
  have inE : ∀ (i : Nat) (X : Nat → ι) (B : Env) (q : Nat) (s : Sp ι) (t : Nat), q < i → S[q]? = some s → s.d = some t → look t ((S.take i).reverse.flatMap (·.bind X) ++ B) = some (s.v X) := fun i X B q s t hl hs hd => look_in ((memE i X t _).2 ⟨q, s, hl, hs, hd, rfl⟩) (fun x hx => by
    obtain ⟨q', s', _, hs', hd', rfl⟩ := (memE i X t x).1 hx
    have := huniq q q' s s' t hs hs' hd hd'
    subst this
    rw [hs] at hs'; cases hs'; rfl)
  have offE : ∀ (i : Nat) (X : Nat → ι) (B : Env) (t : Nat), (∀ (q : Nat) (s : Sp ι), q < i → S[q]? = some s → s.d ≠ some t) → look t ((S.take i).reverse.flatMap (·.bind X) ++ B) = look t B := fun i X B t h => look_app (fun p hp e => by
    obtain ⟨pt, pv⟩ := p
    simp only at e
    subst e
    obtain ⟨q, s, hl, hs, hd, _⟩ := (memE i X pt pv).1 hp
    exact h q s hl hs hd)
  have agree : ∀ (l : Array Bool) (X : Nat → ι) (i : Nat) (o : Oper) (t : Nat), Dn l → i < m → ol[i]? = some o → l.getD i false = false → Afters ol (fun i => l.getD i false = true) i → t ∈ o.looksAt ol.toArray → look t (cm l X ++ env) = look t ((S.take i).reverse.flatMap (·.bind X) ++ env) := by
    intro l X i o t hdn hi ho hni hai ht
    have anc : ∀ j, ((masksOf ol []).getD i 0).testBit j = true → l.getD j false = true := fun j hj => hgood i j hj _ (fun q hq => hdn q hq) hai
    by_cases hex : ∃ (j : Nat) (s : Sp ι), S[j]? = some s ∧ s.d = some t
    · obtain ⟨j, s, hs, hd⟩ := hex
      have hjm := hlt j s hs
      obtain ⟨oj, hoj⟩ := D.m_le j hjm
      obtain ⟨s1, e1, e2, _⟩ := hget j oj hjm hoj
      rw [hs] at e1; cases e1
      rcases D.reads i j o oj t hi hjm ho hoj (e2.trans hd) ht with ⟨h3, h4⟩ | ⟨h3, h4⟩
      · rw [inCm l X env j s t (anc j h4) hs hd, inE i X env j s t h3 hs hd]
      · have hnl : ¬ l.getD j false = true := by
          intro hlj
          have := hgood j i h4 _ (fun q hq => hdn q hq) (hdn j hlj)
          rw [hni] at this
          cases this
        rw [offCm l X env t (fun q s' hq hs' hd' => by
          have := huniq q j s' s t hs' hs hd' hd
          subst this
          exact hnl hq), offE i X env t (fun q s' hq hs' hd' => by
          have := huniq q j s' s t hs' hs hd' hd
          omega)]
    · rw [offCm l X env t (fun q s _ hs hd => hex ⟨q, s, hs, hd⟩), offE i X env t (fun q s _ hs hd => hex ⟨q, s, hs, hd⟩)]
  let St (l : Array Bool) (a : Act) (w : World) : Prop := ∃ X : Nat → ι, Holds w0 N (cm l X ++ env) ((al l).flatMap (tf TL m hp0 X) ++ hp) a w
  have fin : ∀ (l : Array Bool) (a : Act) (w : World), (∀ j, j < m → l.getD j false = true) → St l a w → wpList P ol.toArray Q (ol.drop m) a w := by
    rintro l a w hall ⟨X, hH⟩
    have hdn : dn l = List.range m := List.filter_eq_self.2 (fun p hp => hall p (List.mem_range.1 hp))
    have hav : av l = List.range (m + ny) := List.filter_eq_self.2 (fun p hp => by
      by_cases h : m ≤ p
      · simp [h]
      · rw [hall p (by omega)]; simp)
    have hal : al l = (List.range (m + ny)).filter (fun q => !((S.map (fun s => (⟨s.U, s.R, s.D⟩ : UR))).any (fun u => u.U.contains q))) := by
      show List.filter _ (av l) = _
      rw [hav]
      refine List.filter_congr (fun q hq => ?_)
      congr 1
      show List.any (dn l) _ = _
      rw [hdn, Bool.eq_iff_iff, List.any_eq_true, List.any_eq_true]
      constructor
      · rintro ⟨p, hp, h⟩
        cases hs : S[p]? with
        | none => simp only [Uq, hs] at h; cases h
        | some s =>
          simp only [Uq, hs] at h
          exact ⟨⟨s.U, s.R, s.D⟩, List.mem_map.2 ⟨s, List.mem_of_getElem? hs, rfl⟩, h⟩
      · rintro ⟨u, hu, h⟩
        obtain ⟨s, hs, rfl⟩ := List.mem_map.1 hu
        obtain ⟨p, hp1, hp2⟩ := List.mem_iff_getElem.1 hs
        have hs' : S[p]? = some s := by rw [List.getElem?_eq_getElem hp1, hp2]
        refine ⟨p, List.mem_range.2 (hlt p s hs'), ?_⟩
        simp only [Uq, hs']
        exact h
    rw [hal] at hH
    refine k X a w ⟨hH.size, hH.defers, ?_, by rw [← hL X, ← hhp]; exact hH.heap⟩
    intro t x hx
    refine hH.env t x ?_
    rw [← hx, hEf]
    have hS : S.reverse.flatMap (·.bind X) = (S.take m).reverse.flatMap (·.bind X) := by rw [List.take_of_length_le (by omega)]
    rw [hS]
    by_cases hex : ∃ (j : Nat) (s : Sp ι), S[j]? = some s ∧ s.d = some t
    · obtain ⟨j, s, hs, hd⟩ := hex
      rw [inCm l X env j s t (hall j (hlt j s hs)) hs hd, inE m X env j s t (hlt j s hs) hs hd]
    · rw [offCm l X env t (fun q s _ hs hd => hex ⟨q, s, hs, hd⟩), offE m X env t (fun q s _ hs hd => hex ⟨q, s, hs, hd⟩)]
  refine wpAny_inv (fun l a w => Dn l ∧ ((∀ i, m ≤ i → l.getD i false = false) ∧ St l a w ∨ ∃ k, m < k ∧ k ≤ ol.length ∧ (∀ i, l.getD i false = true ↔ i < k) ∧ wpList P ol.toArray Q (ol.drop k) a w)) ?_ ?_ (ends_of D.on) _ _ _ _ (by simp) ?_ ?_
  · rintro l a w i ⟨hdn, hI⟩ hls hi hni hr
    have hni' : l.getD i false = false := by
      have hil : i < l.size := by rw [hls]; exact hi
      have : l.getD i true = l.getD i false := by simp [Array.getD_eq_getD_getElem?, hil]
      rw [← this, hni]
    have hi' : i < ol.length := by simpa using hi
    have ho : ol[i]? = some ol[i] := List.getElem?_eq_getElem hi'
    have hoa : ol.toArray[i]? = some ol[i] := by simp
    have hset : ∀ j, (l.setIfInBounds i true).getD j false = true ↔ j = i ∨ l.getD j false = true := by
      intro j
      by_cases e : j = i
      · subst e
        rw [getD_set_self l j false (by rw [hls]; exact hi)]
        simp
      · rw [getD_set_other l i j false (Ne.symm e)]
        simp [e]
    have hai : Afters ol (fun i => l.getD i false = true) i := fun o ho' e he hb => by
      rw [ho] at ho'; cases ho'
      exact hr _ hoa e he hb
    have hdn' : Dn (l.setIfInBounds i true) := by
      intro j hj o hoj e he hb
      rcases (hset j).1 hj with rfl | hj
      · exact (hset _).2 (.inr (hai o hoj e he hb))
      · exact (hset _).2 (.inr (hdn j hj o hoj e he hb))
    have anc : ∀ j, ((masksOf ol []).getD i 0).testBit j = true → l.getD j false = true := fun j hj => hgood i j hj _ (fun q hq => hdn q hq) hai
    have ancD : ∀ p q, l.getD p false = true → ((masksOf ol []).getD p 0).testBit q = true → l.getD q false = true := fun p q hp hq => hgood p q hq _ (fun q hq => hdn q hq) (hdn p hp)
    have hlate' : (∀ j, m ≤ j → l.getD j false = false) → i < m → ∀ j, m ≤ j → (l.setIfInBounds i true).getD j false = false := by
      intro hlate him j hj
      cases hv : (l.setIfInBounds i true).getD j false with
      | false => rfl
      | true =>
        rcases (hset j).1 hv with rfl | h
        · omega
        · rw [hlate j hj] at h; cases h
    rcases hI with ⟨hlate, X, hH⟩ | ⟨k', hk, hkl, hl, hwp⟩
    · by_cases him : i < m
      · obtain ⟨s, hs, hd, hlc, hpart⟩ := hget i _ him ho
        have hsU : Uq i = s.U := by simp only [Uq, hs]
        have hUanc : ∀ q ∈ s.U ++ s.R, q ∈ av l ∧ q ≠ i := fun q hq => by
          rcases huse i s q hs hq with h | h
          · exact ⟨(memav l q).2 ⟨by omega, .inr (anc q h.2)⟩, by omega⟩
          · exact ⟨(memav l q).2 ⟨h.2, .inl h.1⟩, by omega⟩
        have husN : ∀ q ∈ s.U ++ s.R, us l q = false := fun q hq => by
          cases hb : us l q with
          | false => rfl
          | true =>
            exfalso
            obtain ⟨p, hp, hpq⟩ := List.any_eq_true.1 hb
            have hpl := ((memdn l p).1 hp).2
            cases hsp : S[p]? with
            | none => simp only [Uq, hsp] at hpq; cases hpq
            | some sp =>
              simp only [Uq, hsp] at hpq
              rcases List.mem_append.1 hq with hq | hq
              · have := hUone i p s sp q hs hsp hq (List.contains_iff_mem.1 hpq)
                subst this
                rw [hni'] at hpl; cases hpl
              · have := ancD p i hpl (hreadb i p s sp q hs hsp hq (List.contains_iff_mem.1 hpq))
                rw [hni'] at this; cases this
        have husi : us l i = false := by
          cases hb : us l i with
          | false => rfl
          | true =>
            exfalso
            obtain ⟨p, hp, hpq⟩ := List.any_eq_true.1 hb
            have hpl := ((memdn l p).1 hp).2
            cases hsp : S[p]? with
            | none => simp only [Uq, hsp] at hpq; cases hpq
            | some sp =>
              simp only [Uq, hsp] at hpq
              rcases huse p sp i hsp (List.mem_append_left _ (List.contains_iff_mem.1 hpq)) with h | h
              · have := ancD p i hpl h.2
                rw [hni'] at this; cases this
              · omega
        have mav' : ∀ q, q ∈ av (l.setIfInBounds i true) ↔ q = i ∨ q ∈ av l := fun q => by
          rw [memav, memav, hset]
          constructor
          · rintro ⟨h1, h2 | rfl | h2⟩
            · exact .inr ⟨h1, .inl h2⟩
            · exact .inl rfl
            · exact .inr ⟨h1, .inr h2⟩
          · rintro (rfl | ⟨h1, h2 | h2⟩)
            · exact ⟨by omega, .inr (.inl rfl)⟩
            · exact ⟨h1, .inl h2⟩
            · exact ⟨h1, .inr (.inr h2)⟩
        have mdn' : ∀ q, q ∈ dn (l.setIfInBounds i true) ↔ q = i ∨ q ∈ dn l := fun q => by
          rw [memdn, memdn, hset]
          constructor
          · rintro ⟨h1, rfl | h2⟩
            · exact .inl rfl
            · exact .inr ⟨h1, h2⟩
          · rintro (rfl | ⟨h1, h2⟩)
            · exact ⟨him, .inl rfl⟩
            · exact ⟨h1, .inr h2⟩
        have hus' : ∀ q, us (l.setIfInBounds i true) q = (us l q || s.U.contains q) := fun q => by
          rw [Bool.eq_iff_iff, Bool.or_eq_true]
          show List.any _ _ = true ↔ List.any _ _ = true ∨ _
          rw [List.any_eq_true, List.any_eq_true]
          constructor
          · rintro ⟨p, hp, h⟩
            rcases (mdn' p).1 hp with rfl | hp
            · rw [hsU] at h; exact .inr h
            · exact .inl ⟨p, hp, h⟩
          · rintro (⟨p, hp, h⟩ | h)
            · exact ⟨p, (mdn' p).2 (.inr hp), h⟩
            · exact ⟨i, (mdn' i).2 (.inl rfl), by rw [hsU]; exact h⟩
        let rest : List Nat := (av l).filter (fun q => !us l q && !((s.U ++ s.R).contains q))
        have hndav : ∀ l, (av l).Nodup := fun l => List.nodup_range.filter _
        have nci : ∀ q, q ∈ av l → (q ∈ s.U ++ s.R ∨ (s.U ++ s.R).contains q = false) := fun q _ => by
          cases hb : (s.U ++ s.R).contains q with
          | false => exact .inr rfl
          | true => exact .inl (List.contains_iff_mem.1 hb)
        have hinav : i ∉ av l := fun h => by
          rcases ((memav l i).1 h).2 with h | h
          · omega
          · rw [hni'] at h; cases h
        have hperm1 : (al l).Perm ((s.U ++ s.R) ++ rest) := by
          refine permOf ?_ ((hndav l).filter _) (fun q => ?_)
          · rw [List.nodup_append]
            refine ⟨hURnd i s hs, (hndav l).filter _, fun q hq q' hq' e => ?_⟩
            subst e
            have := (List.mem_filter.1 hq').2
            rw [List.contains_iff_mem.2 hq] at this
            simp at this
          · show q ∈ List.filter _ _ ↔ _
            rw [List.mem_filter, List.mem_append]
            constructor
            · rintro ⟨h1, h2⟩
              rcases nci q h1 with h | h
              · exact .inl h
              · exact .inr (List.mem_filter.2 ⟨h1, by rw [h, h2]; rfl⟩)
            · rintro (h | h)
              · exact ⟨(hUanc q h).1, by rw [husN q h]; rfl⟩
              · have := List.mem_filter.1 h
                refine ⟨this.1, ?_⟩
                have h2 := this.2
                rw [Bool.and_eq_true] at h2
                exact h2.1
        have hperm2 : (al (l.setIfInBounds i true)).Perm (i :: (s.R ++ rest)) := by
          refine permOf ?_ ((hndav _).filter _) (fun q => ?_)
          · rw [List.nodup_cons, List.nodup_append]
            refine ⟨fun h => ?_, (List.nodup_append.1 (hURnd i s hs)).2.1, (hndav l).filter _, fun q hq q' hq' e => ?_⟩
            · rcases List.mem_append.1 h with h | h
              · exact (hUanc i (List.mem_append_right _ h)).2 rfl
              · exact hinav (List.mem_filter.1 h).1
            · subst e
              have := (List.mem_filter.1 hq').2
              rw [List.contains_iff_mem.2 (List.mem_append_right _ hq)] at this
              simp at this
          · show q ∈ List.filter _ _ ↔ _
            rw [List.mem_filter, List.mem_cons, mav', hus', List.mem_append]
            constructor
            · rintro ⟨rfl | h1, h2⟩
              · exact .inl rfl
              · rw [Bool.not_or, Bool.and_eq_true] at h2
                rcases nci q h1 with h | h
                · rcases List.mem_append.1 h with h | h
                  · rw [List.contains_iff_mem.2 h] at h2
                    simp at h2
                  · exact .inr (.inl h)
                · exact .inr (.inr (List.mem_filter.2 ⟨h1, by rw [h, h2.1]; rfl⟩))
            · rintro (rfl | h | h)
              · refine ⟨.inl rfl, ?_⟩
                have : s.U.contains q = false := by
                  cases hb : s.U.contains q with
                  | false => rfl
                  | true => exact absurd rfl (hUanc q (List.mem_append_left _ (List.contains_iff_mem.1 hb))).2
                rw [husi, this]; rfl
              · refine ⟨.inr (hUanc q (List.mem_append_right _ h)).1, ?_⟩
                have : s.U.contains q = false := by
                  cases hb : s.U.contains q with
                  | false => rfl
                  | true => exact absurd rfl ((List.nodup_append.1 (hURnd i s hs)).2.2 q (List.contains_iff_mem.1 hb) q h)
                rw [husN q (List.mem_append_right _ h), this]; rfl
              · have := List.mem_filter.1 h
                refine ⟨.inr this.1, ?_⟩
                have h2 := this.2
                rw [Bool.and_eq_true] at h2
                have h3 : s.U.contains q = false := by
                  cases hb : s.U.contains q with
                  | false => rfl
                  | true =>
                    have := h2.2
                    rw [List.contains_iff_mem.2 (List.mem_append_left s.R (List.contains_iff_mem.1 hb))] at this
                    simp at this
                rw [h3, Bool.or_false]
                exact h2.1
        have close : ∀ (X' : Nat → ι) (w' : World), (∀ q, q ≠ i → X' q = X q) → HeapOK w0 ((tk TL i X' ++ s.R.flatMap (tf TL m hp0 X)) ++ (rest.flatMap (tf TL m hp0 X) ++ hp)) w' → St (l.setIfInBounds i true) (a.put (ol[i]).dst (s.v X')) w' := by
          intro X' w' hX' hh'
          have hlocq : ∀ (q : Nat) (sq : Sp ι), l.getD q false = true → S[q]? = some sq → sq.v X' = sq.v X ∧ tk TL q X' = tk TL q X := fun q sq hq hsq => hloc q sq hsq X' X (hX' q (fun e => by subst e; rw [hni'] at hq; cases hq)) (fun r hrD => hX' r (fun e => by
            subst e
            have := ancD q r hq (hdep q sq r hsq hrD).2
            rw [hni'] at this; cases this))
          refine ⟨X', ?_⟩
          have htfq : ∀ q, q ∈ av l → tf TL m hp0 X' q = tf TL m hp0 X q := fun q hq => by
            by_cases hqm : q < m
            · have hql : l.getD q false = true := by
                rcases ((memav l q).1 hq).2 with h | h
                · omega
                · exact h
              have hqS : q < S.length := by omega
              unfold tf
              rw [(hlocq q _ hql (List.getElem?_eq_getElem hqS)).2]
            · unfold tf
              have : Nat.blt q m = false := by
                cases hb : Nat.blt q m with
                | false => rfl
                | true => rw [Nat.blt_eq] at hb; exact absurd hb hqm
              rw [this]; rfl
          have hh2 : HeapOK w0 ((al (l.setIfInBounds i true)).flatMap (tf TL m hp0 X') ++ hp) w' := by
            refine hh'.perm ?_
            have e1 : rest.flatMap (tf TL m hp0 X) = rest.flatMap (tf TL m hp0 X') := flat_congr (fun q hq => (htfq q (List.mem_filter.1 hq).1).symm)
            have e2 : s.R.flatMap (tf TL m hp0 X) = s.R.flatMap (tf TL m hp0 X') := flat_congr (fun q hq => (htfq q (hUanc q (List.mem_append_right _ hq)).1).symm)
            have e3 : tk TL i X' = tf TL m hp0 X' i := by
              unfold tf
              rw [show Nat.blt i m = true by rw [Nat.blt_eq]; exact him]; rfl
            rw [e1, e2, e3, ← List.append_assoc, List.append_assoc (tf TL m hp0 X' i)]
            refine List.Perm.append_right _ ?_
            refine List.Perm.symm ((hperm2.flatMap_right _).trans ?_)
            rw [List.flatMap_cons, List.flatMap_append]
          have hcs : ∀ t, (∀ d, s.d = some d → t ≠ d) → look t (cm (l.setIfInBounds i true) X' ++ env) = look t (cm l X ++ env) := by
            intro t hne
            by_cases hex : ∃ (j : Nat) (sj : Sp ι), l.getD j false = true ∧ S[j]? = some sj ∧ sj.d = some t
            · obtain ⟨j, sj, hlj, hsj, hdj⟩ := hex
              rw [inCm _ X' env j sj t ((hset j).2 (.inr hlj)) hsj hdj, inCm l X env j sj t hlj hsj hdj, (hlocq j sj hlj hsj).1]
            · rw [offCm _ X' env t (fun q sq hq hsq hdq => by
                rcases (hset q).1 hq with rfl | hq
                · rw [hs] at hsq; cases hsq; exact hne t hdq rfl
                · exact hex ⟨q, sq, hq, hsq, hdq⟩), offCm l X env t (fun q sq hq hsq hdq => hex ⟨q, sq, hq, hsq, hdq⟩)]
          rw [hd]
          cases hsd : s.d with
          | none =>
            refine ⟨hH.size, hH.defers, ?_, hh2⟩
            intro t y hy
            refine hH.env t y ?_
            rw [← hy, hcs t (fun d e => by rw [hsd] at e; cases e)]
          | some d =>
            have hdN := D.lt i _ d him ho (hd.trans hsd)
            have hp1 := hH.put d (s.v X') hdN hh2
            refine ⟨hp1.size, hp1.defers, ?_, hh2⟩
            intro t y hy
            by_cases e : t = d
            · subst e
              rw [inCm _ X' env i s t ((hset i).2 (.inl rfl)) hs hsd] at hy
              cases hy
              exact hp1.env t _ (by rw [look_cons, if_pos rfl])
            · refine hp1.env t y ?_
              rw [look_cons, if_neg e, ← hy, hcs t (fun d' e' => by rw [hsd] at e'; cases e'; exact e)]
        have hH2 : HeapOK w0 ((s.U ++ s.R).flatMap (tf TL m hp0 X) ++ (rest.flatMap (tf TL m hp0 X) ++ hp)) w := by
          refine hH.heap.perm ?_
          rw [← List.append_assoc]
          refine List.Perm.append_right hp ?_
          have p1 := hperm1.flatMap_right (tf TL m hp0 X)
          rwa [List.flatMap_append] at p1
        have hag : ∀ t ∈ (ol[i]).looksAt ol.toArray, look t (cm l X ++ env) = look t ((S.take i).reverse.flatMap (·.bind X) ++ env) := fun t ht => agree l X i _ t hdn him ho hni' hai ht
        have hop : ∀ t, .tmp t ∈ (ol[i]).op.operands → look t (cm l X ++ env) = look t ((S.take i).reverse.flatMap (·.bind X) ++ env) := fun t ht => hag t (List.mem_append_left _ (List.mem_filterMap.2 ⟨.tmp t, by simpa using ht, rfl⟩))
        have hgu : ∀ j tj b, (ol[i]).guard = some (j, b) → (ol.toArray[j]?).bind (·.dst) = some tj → look tj (cm l X ++ env) = look tj ((S.take i).reverse.flatMap (·.bind X) ++ env) := fun j tj b hg hj => hag tj (List.mem_append_right _ (by rw [hg]; simp only [Option.toList_some, List.flatMap_cons, List.flatMap_nil, List.append_nil]; rw [hj]; simp))
        unfold Go.wpOp
        simp only [hoa]
        have run : (SpE P w0 hp0 m ny TL i ol[i] (fun X => (S.take i).reverse.flatMap (·.bind X) ++ env) s.v s.U s.R) → (ol[i]).wp P a w (fun a' w' => Dn (l.setIfInBounds i true) ∧ ((∀ j, m ≤ j → (l.setIfInBounds i true).getD j false = false) ∧ St (l.setIfInBounds i true) a' w' ∨ ∃ k, m < k ∧ k ≤ ol.length ∧ (∀ j, (l.setIfInBounds i true).getD j false = true ↔ j < k) ∧ wpList P ol.toArray Q (ol.drop k) a' w')) Q := fun hq =>
          ((hq X).any (D.sel i _ him ho) hop).wp hH.env (by rw [← hhp]; exact hH2) (fun x w' hh' => ⟨hdn', .inl ⟨hlate' hlate him, close (gset X i x) w' (fun q hq => gset_other X i x hq) (by rw [← hhp] at hh'; exact hh')⟩⟩)
        rcases hpart with ⟨hg, hq⟩ | ⟨j, tj, b, hg, hj, hb, hq⟩ | ⟨j, tj, b, x, hg, hj, hx, hb, hv, hU0, hR0, hT0⟩
        · rw [if_pos (by simp [Region.wanted, hg])]
          exact .inl (run hq)
        · have hw := wanted_of (ops := ol.toArray) hg hj (hH.env tj _ ((hgu j tj b hg hj).trans (hb X)))
          rw [hw, if_pos (by simp)]
          exact .inl (run hq)
        · have hw := unwanted_of (ops := ol.toArray) hg hj hx (hH.env tj _ ((hgu j tj b hg hj).trans (hb X)))
          rw [hw, if_neg (by simp)]
          have := close X w (fun _ _ => rfl) (by
            rw [hU0, hR0] at hH2
            rw [hT0 X, hR0]
            exact hH2)
          rw [hv X] at this
          exact ⟨hdn', .inl ⟨hlate' hlate him, this⟩⟩
      · have hall : ∀ j, j < i → l.getD j false = true := fun j hj => anc j (D.late i j (by omega) hi' hj)
        have him2 : i = m := by
          rcases Nat.lt_or_ge m i with h | h
          · have := hall m h; rw [hlate m (Nat.le_refl _)] at this; cases this
          · omega
        subst him2
        have hwl := fin l a w hall ⟨X, hH⟩
        rw [List.drop_eq_getElem_cons hi'] at hwl
        unfold Go.wpOp
        simp only [hoa]
        unfold wpList at hwl
        have hfin : ∀ a w, wpList P ol.toArray Q (ol.drop (i + 1)) a w → Dn (l.setIfInBounds i true) ∧ ((∀ j, i ≤ j → (l.setIfInBounds i true).getD j false = false) ∧ St (l.setIfInBounds i true) a w ∨ ∃ k, i < k ∧ k ≤ ol.length ∧ (∀ j, (l.setIfInBounds i true).getD j false = true ↔ j < k) ∧ wpList P ol.toArray Q (ol.drop k) a w) := by
          intro a w h
          refine ⟨hdn', .inr ⟨i + 1, by omega, by omega, fun j => ?_, h⟩⟩
          rw [hset j]
          constructor
          · rintro (rfl | h2)
            · omega
            · by_cases hji : i ≤ j
              · rw [hlate j hji] at h2; cases h2
              · omega
          · intro h2
            by_cases hji : j = i
            · exact .inl hji
            · exact .inr (hall j (by omega))
        split
        · rename_i hw
          rw [if_pos hw] at hwl
          exact hwl.imp (Oper.wp_mono hfin) (fun x => x)
        · rename_i hw
          rw [if_neg hw] at hwl
          exact hfin _ _ hwl
    · have hk2 : i = k' := by
        have h1 : ¬ i < k' := fun h => by
          have := (hl i).2 h
          rw [hni'] at this; cases this
        rcases Nat.lt_or_ge k' i with h | h
        · have := (hl k').1 (anc k' (D.late i k' (by omega) hi' h))
          omega
        · omega
      subst hk2
      rw [List.drop_eq_getElem_cons hi'] at hwp
      unfold Go.wpOp
      simp only [hoa]
      unfold wpList at hwp
      have hfin : ∀ a w, wpList P ol.toArray Q (ol.drop (i + 1)) a w → Dn (l.setIfInBounds i true) ∧ ((∀ j, m ≤ j → (l.setIfInBounds i true).getD j false = false) ∧ St (l.setIfInBounds i true) a w ∨ ∃ k, m < k ∧ k ≤ ol.length ∧ (∀ j, (l.setIfInBounds i true).getD j false = true ↔ j < k) ∧ wpList P ol.toArray Q (ol.drop k) a w) := by
        intro a w h
        refine ⟨hdn', .inr ⟨i + 1, by omega, by omega, fun j => ?_, h⟩⟩
        rw [hset j, hl j]
        omega
      split
      · rename_i hw
        rw [if_pos hw] at hwp
        exact hwp.imp (Oper.wp_mono hfin) (fun x => x)
      · rename_i hw
        rw [if_neg hw] at hwp
        exact hfin _ _ hwp
  · rintro l a w ⟨hdn, hI⟩ hall
    rcases hI with ⟨hlate, hSt⟩ | ⟨k', hk, hkl, hl, hwp⟩
    · have hmm : m = ol.length := by
        rcases Nat.lt_or_ge m ol.length with h | h
        · have := hall m (by simpa using h)
          rw [hlate m (Nat.le_refl _)] at this; cases this
        · omega
      have := fin l a w (fun j hj => hall j (by simp; omega)) hSt
      rw [hmm, List.drop_length] at this
      exact this
    · have hkk : k' = ol.length := by
        rcases Nat.lt_or_ge k' ol.length with h | h
        · have := (hl k').1 (hall k' (by simpa using h))
          omega
        · omega
      rw [hkk, List.drop_length] at hwp
      exact hwp
  · unfold cntF
    refine Nat.le_trans (List.countP_le_length) (by simp)
  · have hrep : ∀ j, (Array.replicate ol.toArray.size false).getD j false = false := by
      intro j
      by_cases hj : j < ol.length <;> simp [Array.getD_eq_getD_getElem?, hj]
    refine ⟨fun i hi => ?_, .inl ⟨fun j _ => hrep j, fun _ => Classical.choice ‹_›, ?_⟩⟩
    · rw [hrep i] at hi; cases hi
    · have hdn0 : dn (Array.replicate ol.toArray.size false) = [] := by
        show List.filter _ _ = []
        rw [List.filter_eq_nil_iff]
        intro i _
        rw [hrep i]
        simp
      have hav0 : (av (Array.replicate ol.toArray.size false)).filter (fun q => !us (Array.replicate ol.toArray.size false) q) = (List.range ny).map (m + ·) := by
        have h1 : av (Array.replicate ol.toArray.size false) = (List.range ny).map (m + ·) := by
          show List.filter _ (List.range (m + ny)) = _
          rw [List.range_add, List.filter_append]
          have e1 : (List.range m).filter (fun q => decide (m ≤ q) || (Array.replicate ol.toArray.size false).getD q false) = [] := List.filter_eq_nil_iff.2 (fun q hq => by
            rw [hrep q]
            have := List.mem_range.1 hq
            simp; omega)
          have e2 : ((List.range ny).map (m + ·)).filter (fun q => decide (m ≤ q) || (Array.replicate ol.toArray.size false).getD q false) = (List.range ny).map (m + ·) := List.filter_eq_self.2 (fun q hq => by
            obtain ⟨r, _, rfl⟩ := List.mem_map.1 hq
            simp)
          rw [e1, e2]; rfl
        rw [h1]
        refine List.filter_eq_self.2 (fun q _ => ?_)
        show (!(List.any (dn _) _)) = true
        rw [hdn0]; rfl
      show Holds w0 N ((dn _).flatMap _ ++ env) (((av _).filter _).flatMap _ ++ hp) _ _
      rw [hdn0, hav0]
      have hh2 := hh.heap
      have e : ((List.range ny).map (m + ·)).flatMap (tf TL m hp0 (fun _ => Classical.choice ‹_›)) = hp0.take ny := by
        rw [← take_pick (m := m) ny hny]
        refine flat_congr (fun q hq => ?_)
        obtain ⟨r, _, rfl⟩ := List.mem_map.1 hq
        unfold tf
        have : Nat.blt (m + r) m = false := by
          cases hb : Nat.blt (m + r) m with
          | false => rfl
          | true => rw [Nat.blt_eq] at hb; omega
        rw [this]; rfl
      rw [e, hhp, List.take_append_drop]
      exact ⟨hh.size, hh.defers, hh.env, hh2.drawn _⟩
end
end Go.Sx
end
section
namespace Go.Sx
open Go.RowKit
set_option linter.unusedVariables false
set_option linter.unusedSimpArgs false
section
variable {P : Program} {ops : Array Oper} {Q : Exit → Act → World → Prop} {w0 : World} {N : Fr} {l : List Oper} {env : Env} {hp : List Item} {o : Oper}
theorem OpQ.to {v v' : Value} (h : OpQ P o env w0 hp v) (e : v = v') : OpQ P o env w0 hp v' := e ▸ h
end
end Go.Sx
end
section
namespace Go.Sx
open Go.RowKit
set_option linter.unusedVariables false
set_option linter.unusedSimpArgs false
abbrev Gh := Option Addr × Nat
section
variable {P : Program} {ops : Array Oper} {Q : Exit → Act → World → Prop} {w0 : World} {N : Fr} {l : List Oper} {env : Env} {hp : List Item} {o : Oper} {ny : Nat}
theorem ChainG.mk {m : Nat} {TL : List (Nat × ((Nat → Gh) → List Item))} {i : Nat} {E Ef : (Nat → Gh) → Env} {S : List (Sp Gh)} {d : Nat} {it : (Nat → Gh) → Nat → Item} (vb : Nat → Value) (D : List Nat) (hq : ∀ X, OpM (ι := Nat) P o (E X) w0 (hp.drop ny) vb (it X)) (hg : o.guard = none) (hd : o.dst = some d) (ht : ∀ X, tk TL i X = [it X (X i).2]) (hc : ∀ X x, it (gset X i x) = it X) (hl : LocG i D (fun X => vb (X i).2) (fun X => [it X (X i).2]))
    (k : ChainG P w0 hp m ny ops TL (i + 1) l (fun X => (d, vb (X i).2) :: E X) S Ef) : ChainG P w0 hp m ny ops TL i (o :: l) E (⟨some d, fun X => vb (X i).2, [], [], D⟩ :: S) Ef :=
  .ope (fun X => vb (X i).2) [] D (fun X => by
    have h := (hq X).gmap (ι := Gh) (·.2) (fun k => (none, k)) (fun _ => rfl)
    simp only [ht, hc, gset_self]
    exact h) hg hd (fun X X' h1 h2 => ⟨(hl X X' h1 h2).1, by rw [ht, ht]; exact (hl X X' h1 h2).2⟩) k
theorem HeapOK.frame {w : World} {X R : List Item} (h : HeapOK w0 (X ++ (R ++ hp)) w) : HeapOK w0 hp w := h.sub ((List.sublist_append_right _ _).trans (List.sublist_append_right _ _))
theorem oe_call {ι : Type} {f : Nat} {args : Array Operand} {ts : Array TypeId} {vs : List Value} {X : List Item} {v : ι → Value} {X' : ι → List Item} (ho : o.op = .call { callee := .value (.func f), args := args, argTypes := ts }) (he : Ent P f) (ha : evL args.toList env = some vs)
    (hc : ∀ R w, HeapOK w0 (X ++ (R ++ hp)) w → Calls P f vs.toArray w (fun e w' => ∃ x, e = .returned (v x) ∧ HeapOK w0 (X' x ++ (R ++ hp)) w')) : OpE P o env w0 hp X v X' := by
  intro R a w hev hh
  rw [call_func ho, evA_of hev ha, he]
  exact hc R w hh
theorem OpE.less {ι : Type} {X : List Item} {v : ι → Value} {X' X2 : ι → List Item} (h : OpE P o env w0 hp X v X') (hs : ∀ x, (X2 x).Sublist (X' x)) : OpE P o env w0 hp X v X2 := by
  intro R a w he hh
  have := h R a w he hh
  generalize (execOp a.eval o).run P w = r at this
  cases r with
  | halt x w' => exact this.elim
  | ok n w' =>
    cases n <;> try exact this.elim
    · obtain ⟨x, h1, h2⟩ := this
      exact ⟨x, h1, h2.sub (List.Sublist.append_right (hs x) _)⟩
    · obtain ⟨x, h1, h2⟩ := this
      exact ⟨x, h1, h2.sub (List.Sublist.append_right (hs x) _)⟩
    · exact Calls.mono this (fun e w'' ⟨x, h1, h2⟩ => ⟨x, h1, h2.sub (List.Sublist.append_right (hs x) _)⟩)
theorem oe_appendR {s x : Operand} {T E sz by_ i m c n : Nat} {v : Value} {xs news : List Value} {A : Option Addr} {X : List Item} (ho : o.op = .call { callee := .builtin .append, args := #[s, x], argTypes := #[T, T] })
    (hT : P.underlying T = some (.slice E)) (hE : (P.info? E).map (fun i => (i.size, i.bytes, (i.zero.map (fun z => z.cells.size)).getD 0)) = some (sz, by_, sz)) (hsz : 0 < sz)
    (hs : evE s env = some v) (hx : evE x env = some (.slice A m c)) (hi : X[i]? = some (.own 0 E sz v n xs)) (hA : ∀ R w, HeapOK w0 (X ++ (R ++ hp)) w → 0 < m → ∃ ad, A = some ad ∧ ∀ j u, news[j]? = some u → w.cell? (ad.add j) = some u) (hl : news.length = m * sz) (h1 : ∀ u ∈ news, u.oneCell' = true)
    (hmax : n + m ≤ maxLen) (hby : (n + m) * by_ ≤ 140737488355328) :
    OpE (ι := Gh) P o env w0 hp X (fun i => .slice i.1 (n + m) i.2) (fun q => X.set i (.own 0 E sz (.slice q.1 (n + m) q.2) (n + m) (xs ++ news))) := by
  intro R a w he hh
  have hil := (List.getElem?_eq_some_iff.1 hi).1
  have hi2 : (X ++ (R ++ hp))[i]? = some (.own 0 E sz v n xs) := by rw [List.getElem?_append_left hil]; exact hi
  have hown : w.ownsRow 0 E sz v n xs := hh.get hi2
  have hform : ∀ {w : World} {v : Value} {n : Nat} {xs : List Value}, w.ownsRow 0 E sz v n xs → ∃ q : Gh, v = .slice q.1 n q.2 := by
    intro w v n xs h
    rcases h.2 with ⟨e, e0⟩ | ⟨g, cap, cur, e, hg, hh, hn, r⟩
    · exact ⟨(none, 0), by rw [e, e0]⟩
    · exact ⟨(_, cap), e⟩
  rcases Nat.eq_zero_or_pos m with h0 | h0
  · subst h0
    have hnil : news = [] := List.eq_nil_of_length_eq_zero (by rw [hl, Nat.zero_mul])
    subst hnil
    cases hI : P.info? E with
    | none => rw [hI] at hE; cases hE
    | some i0 =>
      have hform' : ∃ B c2, v = .slice B n c2 ∧ n ≤ c2 := by
        rcases hown.2 with ⟨e, e0⟩ | ⟨g, cap, cur, e, hg, hh, hn, r⟩
        · exact ⟨none, 0, by rw [e, e0], by omega⟩
        · exact ⟨_, cap, e, hn⟩
      obtain ⟨B, c2, rfl, hle⟩ := hform'
      have hr := run_append_nothing (P := P) w T T o.type E i0 hT hI B n c2 hle (.slice A 0 c) (by
        refine ⟨.inl ⟨E, hT⟩, fun w' => ?_, ?_, ?_, by simp, by simp⟩ <;> cases A <;> simp [Builtin.lenOf, Builtin.firstCells, go_sem, loadCells])
      unfold execOp
      simp only [ho, resolve, invoke, builtin, Sem.run_bind, Sem.run_pure, Result.andThen_ok, List.map_toArray, List.map_cons, List.map_nil, ev_of he hs, ev_of he hx, hr]
      refine ⟨(B, c2), rfl, ?_⟩
      have : X.set i (.own 0 E sz (.slice B (n + 0) c2) (n + 0) (xs ++ [])) = X := by
        rw [List.append_nil, Nat.add_zero]
        obtain ⟨hil, hie⟩ := List.getElem?_eq_some_iff.1 hi
        rw [← hie]
        exact List.set_getElem_self hil
      show HeapOK w0 (X.set i (.own 0 E sz (.slice B (n + 0) c2) (n + 0) (xs ++ [])) ++ (R ++ hp)) w
      rw [this]
      exact hh
  · obtain ⟨ad, rfl, hc⟩ := hA R w hh h0
    cases hI : P.info? E with
    | none => rw [hI] at hE; cases hE
    | some i0 =>
      rw [hI] at hE
      simp only [Option.map_some, Option.some.injEq, Prod.mk.injEq] at hE
      obtain ⟨e1, e2, e3⟩ := hE
      cases hz : i0.zero with
      | none => rw [hz] at e3; simp at e3; omega
      | some z =>
        rw [hz] at e3
        simp only [Option.map_some, Option.getD_some] at e3
        obtain ⟨v', w', hr, hown', hgr, hnil, hpl⟩ := run_append_own_at (P := P) w 0 T o.type E i0 z sz by_ hT hI hz e1 e2 e3 hsz v n xs hown ad m c news hl hc h1 hmax hby (Nat.zero_le _)
        unfold execOp
        simp only [ho, resolve, invoke, builtin, Sem.run_bind, Sem.run_pure, Result.andThen_ok, List.map_toArray, List.map_cons, List.map_nil, ev_of he hs, ev_of he hx, hr]
        obtain ⟨q, rfl⟩ := hform hown'
        refine ⟨q, rfl, ?_⟩
        have hU := hh.updAt hi2 (y := .own 0 E sz (.slice q.1 (n + m) q.2) (n + m) (xs ++ news)) hgr.os hgr.tape hgr.output hgr.size (fun k hk hnf => hgr.block k hk (fun e => hnf e.symm)) hown' (fun k hk => by
          have hlt := own_block_lt hown' k hk
          refine ⟨?_, hlt⟩
          have hk' : (Value.slice q.1 (n + m) q.2).ownBlock = some k := hk
          rcases hpl with hpl | hpl
          · exact .inl (show v.ownBlock = some k from hpl ▸ hk')
          · rw [hk'] at hpl
            cases hpl
            exact .inr (Nat.le_refl _))
        rw [List.set_append_left _ _ hil] at hU
        exact hU
end
end Go.Sx
end
section
namespace Go.Proofs.YtbcijmpkmmcdeaaDoor.SF
open Go.RowKit Go.Sx Go.Proofs.YtbcijmpkmmcdeaaDoor.PAll Go.Proofs.YtbcijmpkmmcdeaaDoorW.PrintWords Go.Proofs.YtbcijmpkmmcdeaaDoorW.PrintLast Go.Proofs.YtbcijmpkmmcdeaaDoorW.PrintMore
set_option linter.unusedVariables false
set_option linter.unusedSimpArgs false
set_option maxRecDepth 100000
def Jn.now (J : Jn) : List Int := if J.last = 1 then J.s1 else J.s0
def Jn.put (J : Jn) (s : List Int) : Jn := if J.last = 1 then { J with s1 := s } else { J with s0 := s }
theorem RowC.take {w : World} {p : Option Addr × Nat} {l : List Int} {k : Nat} (h : RowC w p l) (hk : k ≤ l.length) : RowC w p (l.take k) := by
  have hlen : (l.take k).length = k := by rw [List.length_take]; omega
  refine ⟨by rw [hlen]; exact Nat.le_trans hk h.1, rfl, by rw [hlen]; exact Nat.le_trans hk h.2.2.1, fun h0 => ?_⟩
  obtain ⟨ad, e, hc⟩ := h.2.2.2 (by omega)
  refine ⟨ad, e, fun j q hq => ?_⟩
  rw [List.getElem?_take] at hq
  split at hq
  · exact hc j q hq
  · cases hq
theorem RowC.drop {w : World} {p : Option Addr × Nat} {l : List Int} {k : Nat} (h : RowC w p l) (hk : k ≤ l.length) (h0 : 0 < l.length - k) : ∃ ad, (if p.2 = k then p.1 else p.1.map (·.add (k * 1))) = some ad ∧ ∀ j u, (nums .u8 (l.drop k))[j]? = some u → w.cell? (ad.add j) = some u := by
  obtain ⟨ad, e, hc⟩ := h.2.2.2 (by omega)
  refine ⟨ad.add (k * 1), ?_, fun j u hu => ?_⟩
  · rw [if_neg (by have := h.1; omega), e]; rfl
  · unfold nums at hu
    rw [List.getElem?_map, List.getElem?_drop] at hu
    cases hq : l[k + j]? with
    | none => rw [hq] at hu; cases hu
    | some q =>
      rw [hq] at hu
      cases hu
      obtain ⟨cs, hl, hK, hcell⟩ := hc (k + j) q hq
      obtain rfl : cs = [.int .u8 q] := hK
      have := hcell 0 _ rfl
      simp only [Kd.int, Kd.scalar, Nat.mul_one, Nat.add_zero] at this
      have ea : (ad.add k).add j = ad.add (k + j) := by (unfold Addr.add; split <;> split <;> simp_all [Nat.add_assoc] <;> omega)
      rw [Nat.mul_one, ea]
      exact this
end Go.Proofs.YtbcijmpkmmcdeaaDoor.SF
end
section
namespace Go.Proofs.YtbcijmpkmmcdeaaDoor.PAll
open Go.RowKit Go.Proofs.YtbcijmpkmmcdeaaDoorW.PrintWords Go.Proofs.YtbcijmpkmmcdeaaDoorW.PrintLast Go.Proofs.YtbcijmpkmmcdeaaDoorW.PrintMore
attribute [local go_sem] max2_int min2_int max_two min_two max_three min_three max_four min_four
set_option linter.unusedVariables false
set_option linter.unusedSimpArgs false
def paternosterref01_Num.l0 : Nat → Int → Int → ByteArray → Int → Option (ByteArray)
  | 0, _, _, _, _ => none
  | k + 1, x0, x1, x5, x6 => if x6 < x0 then (if x0 ≤ 8 then ((some (([(Int.tmod x1 256) % 256] : List Int) : List Int)).bind fun y225 => (if x5.size + (strOfNums y225).size ≤ 9223372036854775807 then (paternosterref01_Num.l0 k x0 (IntKind.u64.wrap (Int.tdiv x1 256)) (x5 ++ (strOfNums y225)) (wrap64 (x6 + 1))) else (none))) else (some x5)) else (some x5)
def paternosterref01_Num.f (k : Nat) (a0 : Int) (a1 : Int) : Option (ByteArray) := paternosterref01_Num.l0 k a0 a1 (⟨#[]⟩ : ByteArray) 0
set_option maxHeartbeats 8000000 in
set_option maxRecDepth 100000 in
theorem paternosterref01_Num.calls (k : Nat) (a0 : Int) (a1 : Int) (r : ByteArray) (w : World) (h : paternosterref01_Num.f k a0 a1 = some r) :
    Calls Tryd.prog 54 #[.int .i64 a0, .int .u64 a1] w fun e w' => e = .returned (.string r) ∧ Below w.heap.size w w' := by
  have HB := Aside0.mk (Below.refl w.heap.size w)
  have H : (paternosterref01_Num.l0 k a0 a1 (⟨#[]⟩ : ByteArray) 0) = some r := h
  clear h
  have H' := Aside0.mk H
  clear H
  go_enter Tryd.func54, Tryd.ntmps54
  go_wp2
  go_loopg [1, 5, 6] k (fun kq v1 v5 v6 w' => ∃ (x1_1 : Int) (x5_1 : ByteArray) (x6_1 : Int), v1 = .int .u64 x1_1 ∧ v5 = .string x5_1 ∧ v6 = .int .i64 x6_1 ∧ Aside0 (paternosterref01_Num.l0 kq a0 x1_1 x5_1 x6_1 = some r) ∧ Aside0 (kq ≤ k) ∧ Aside0 (Below w.heap.size w w'))
  case atStart => exact ⟨(a1), ((⟨#[]⟩ : ByteArray)), (0), (by first | rfl | (simp; done) | (simp [*]; done)), (by first | rfl | (simp; done) | (simp [*]; done)), (by first | rfl | (simp; done) | (simp [*]; done)), H', ⟨Nat.le_refl _⟩, ⟨by repeat (first | (with_reducible first | exact HB.out | apply below_alloc | apply pw_below_drewN | apply below_drew1) | exact HB.out)⟩⟩
  case round =>
    clear H'
    try clear p2
    obtain ⟨x1_1, x5_1, x6_1, rfl, rfl, rfl, HA, HK1, HB⟩ := hrel
    cases gk with
    | zero => exact absurd HA.out (by simp [paternosterref01_Num.l0])
    | succ k1 =>
      have H := HA.out
      clear HA
      simp only [paternosterref01_Num.l0] at H
      by_cases c3 : x6_1 < a0
      · rw [if_pos c3] at H
        have c3b0 : decide (x6_1 < a0) = true := decide_eq_true c3
        clear c3
        by_cases c4 : a0 ≤ 8
        · rw [if_pos c4] at H
          have c4b0 : decide (a0 ≤ 8) = true := decide_eq_true c4
          clear c4
          obtain ⟨y225, hy225⟩ : ∃ y_ : List Int, y_ = (([(Int.tmod x1_1 256) % 256] : List Int)) := ⟨_, rfl⟩
          replace H : (if x5_1.size + (strOfNums y225).size ≤ 9223372036854775807 then (paternosterref01_Num.l0 k1 a0 (IntKind.u64.wrap (Int.tdiv x1_1 256)) (x5_1 ++ (strOfNums y225)) (wrap64 (x6_1 + 1))) else (none)) = some r := by first | (rw [hy225]; with_reducible exact H) | (have H2_ := (Option.bind_some _ _).symm.trans H; rw [hy225]; with_reducible exact H2_) | (have H2_ := (Option.bind_some _ _).symm.trans H; with_reducible exact H2_) | with_reducible exact H | (rw [hy225]; exact H) | exact H
          have Ny225 := Aside0.mk hy225
          clear hy225
          by_cases c5 : x5_1.size + (strOfNums y225).size ≤ 9223372036854775807
          · rw [if_pos c5] at H
            have c5b0 := eq_true c5
            have c5b1 : decide (x5_1.size + (strOfNums y225).size ≤ 9223372036854775807) = true := decide_eq_true c5
            try have c5b2 : (9223372036854775807 < x5_1.size + (strOfNums y225).size) = False := eq_false (Nat.not_lt.2 c5)
            have H' := Aside0.mk H
            clear H
            go_wp2_with (first | ((with_reducible refine gate_dst (N := 20) rfl ?_); refine Kd.R_lit (Kd.int .u8) _ 5 ?hg (N := 20) ?hd (xs := ([(Int.tmod x1_1 256) % 256] : List Int)) (inner := [.int .u8 ((Int.tmod x1_1 256) % 256)]) (ok := fun _ => True) (okp := fun _ => True) ?hr ?hp (fun _ hk => hk) trivial (Below.refl _ _) (Nat.le_refl _) (by simp) ?_; (case hd => rfl); (case hg => rfl); (case hr => first | (go_simp; done) | (go_simp; rfl)); (case hp => exact (Reps.one (show Kd.M (Kd.int .u8) _ _ _ ((Int.tmod x1_1 256) % 256) [.int .u8 ((Int.tmod x1_1 256) % 256)] from rfl) (Reps.none _ _))); intro v226 w6 ho7 hb hg_ hnew_; clear hg_ hnew_; (first | rw [← Ny225.out] at ho7 | (simp only [Int.reduceToNat] at ho7; rw [← Ny225.out] at ho7)); have n0_ := Aside0.mk (Kd.R_lower ho7 (below_size (by repeat (first | (with_reducible first | exact HB.out | apply below_alloc | apply pw_below_drewN | apply below_drew1) | exact HB.out)))); have n1_ := Aside0.mk (below_step (by repeat (first | (with_reducible first | exact HB.out | apply below_alloc | apply pw_below_drewN | apply below_drew1) | exact HB.out)) hb); clear HB; have HO227 := n0_; have HB := n1_; clear n0_ n1_; clear hb ho7; have hcv8 := own_string (P := Tryd.prog) Tryd.underlying22 Tryd.underlying5 Tryd.underlying9 (Kd.own_of_R HO227.out)))
            go_roundg k1
            case measure => have := HK1.out; omega
            case rel => exact ⟨(IntKind.u64.wrap (Int.tdiv x1_1 256)), (x5_1 ++ (strOfNums y225)), (wrap64 (x6_1 + 1)), (by first | rfl | (simp; done) | (simp [*]; done)), (by first | rfl | (simp; done) | (simp [*]; done)), (by first | rfl | (simp; done) | (simp [*]; done)), H', ⟨by have := HK1.out; omega⟩, ⟨by repeat (first | (with_reducible first | exact HB.out | apply below_alloc | apply pw_below_drewN | apply below_drew1) | exact HB.out)⟩⟩
          · rw [if_neg c5] at H
            exact absurd H (by simp)
        · rw [if_neg c4] at H
          have c4b0 : decide (a0 ≤ 8) = false := decide_eq_false c4
          clear c4
          obtain rfl := Option.some.inj H
          go_wp2
          go_ret
          exact ⟨by first | rfl | (simp [errW_none, errW_some] <;> rfl) | (simp [*, errW_none, errW_some] <;> rfl), by repeat (first | (with_reducible first | exact HB.out | apply below_alloc | apply pw_below_drewN | apply below_drew1) | exact HB.out)⟩
      · rw [if_neg c3] at H
        have c3b0 : decide (x6_1 < a0) = false := decide_eq_false c3
        clear c3
        obtain rfl := Option.some.inj H
        go_wp2
        go_ret
        exact ⟨by first | rfl | (simp [errW_none, errW_some] <;> rfl) | (simp [*, errW_none, errW_some] <;> rfl), by repeat (first | (with_reducible first | exact HB.out | apply below_alloc | apply pw_below_drewN | apply below_drew1) | exact HB.out)⟩
end Go.Proofs.YtbcijmpkmmcdeaaDoor.PAll
end
section
namespace Go.Proofs.YtbcijmpkmmcdeaaDoor.PAll
open Go.RowKit Go.Proofs.YtbcijmpkmmcdeaaDoorW.PrintWords Go.Proofs.YtbcijmpkmmcdeaaDoorW.PrintLast Go.Proofs.YtbcijmpkmmcdeaaDoorW.PrintMore
attribute [local go_sem] max2_int min2_int max_two min_two max_three min_three max_four min_four
set_option linter.unusedVariables false
set_option linter.unusedSimpArgs false
mutual
def paternosterref02_Of.l0 : Nat → ByteArray → Int → Int → Option (Int)
  | 0, _, _, _ => none
  | k + 1, x0, x3, x4 => if x4 < (x0.size : Int) then (if 0 ≤ x4 then (paternosterref02_Of.l1 k x0 (Go.bits .xor .u32 x3 ((bt x0 x4) % 4294967296)) x4 0) else (none)) else (some ((4294967295 - x3) % 4294967296))
def paternosterref02_Of.l1 : Nat → ByteArray → Int → Int → Int → Option (Int)
  | 0, _, _, _, _ => none
  | k + 1, x0, x3, x4, x5 => if x5 < 8 then (if (Int.tmod x3 2) = 1 then (paternosterref02_Of.l1 k x0 (Go.bits .xor .u32 ((Int.tdiv x3 2) % 4294967296) 3988292384) x4 (wrap64 (x5 + 1))) else (paternosterref02_Of.l1 k x0 ((Int.tdiv x3 2) % 4294967296) x4 (wrap64 (x5 + 1)))) else (paternosterref02_Of.l0 k x0 x3 (wrap64 (x4 + 1)))
end
def paternosterref02_Of.f (k : Nat) (a0 : ByteArray) : Option (Int) := paternosterref02_Of.l0 k a0 4294967295 0
set_option maxHeartbeats 8000000 in
set_option maxRecDepth 100000 in
theorem paternosterref02_Of.calls (k : Nat) (a0 : ByteArray) (r : Int) (w : World) (h : paternosterref02_Of.f k a0 = some r) :
    Calls Tryd.prog 71 #[.string a0] w fun e w' => e = .returned (.int .u32 r) ∧ Drawn0 w w' := by
  have H : (paternosterref02_Of.l0 k a0 4294967295 0) = some r := h
  clear h
  have H' := Aside0.mk H
  clear H
  go_enter Tryd.func71, Tryd.ntmps71
  go_wp2
  go_loopg [3, 4] k (fun kq v3 v4 w' => ∃ (x3_1 : Int) (x4_1 : Int), v3 = .int .u32 x3_1 ∧ v4 = .int .i64 x4_1 ∧ Aside0 (paternosterref02_Of.l0 kq a0 x3_1 x4_1 = some r) ∧ Aside0 (kq ≤ k) ∧ Drawn0 w w')
  case atStart => exact ⟨(4294967295), (0), (by first | rfl | (simp; done) | (simp [*]; done)), (by first | rfl | (simp; done) | (simp [*]; done)), H', ⟨Nat.le_refl _⟩, by repeat (first | exact Drawn0.refl _ | apply Drawn0.step)⟩
  case round =>
    clear H'
    obtain ⟨x3_1, x4_1, rfl, rfl, HA, HK1, ⟨m1, rfl⟩⟩ := hrel
    cases gk with
    | zero => exact absurd HA.out (by simp [paternosterref02_Of.l0])
    | succ k1 =>
      have H := HA.out
      clear HA
      simp only [paternosterref02_Of.l0] at H
      by_cases c2 : x4_1 < (a0.size : Int)
      · rw [if_pos c2] at H
        have c2b0 : decide (x4_1 < (a0.size : Int)) = true := decide_eq_true c2
        clear c2
        by_cases c3 : 0 ≤ x4_1
        · rw [if_pos c3] at H
          have c3b0 : decide (0 ≤ x4_1) = true := decide_eq_true c3
          clear c3
          have H' := Aside0.mk H
          clear H
          have p4 : 0 ≤ (x4_1 : Int) := of_decide_eq_true (by first | (with_reducible assumption) | assumption)
          have q4 : x4_1 < (a0.size : Int) := of_decide_eq_true (by first | (with_reducible assumption) | assumption)
          have hx4 := bt_at a0 x4_1
          replace p4 := eq_true p4
          replace q4 := eq_true q4
          go_wp2
          go_loopg [3, 5] k1 (fun kq v3 v5 w' => ∃ (x3_2 : Int) (x5_2 : Int), v3 = .int .u32 x3_2 ∧ v5 = .int .i64 x5_2 ∧ Aside0 (paternosterref02_Of.l1 kq a0 x3_2 x4_1 x5_2 = some r) ∧ Aside0 (kq ≤ k1) ∧ Drawn0 w w')
          case atStart => exact ⟨(Go.bits .xor .u32 x3_1 ((bt a0 x4_1) % 4294967296)), (0), (by first | rfl | (simp; done) | (simp [*]; done)), (by first | rfl | (simp; done) | (simp [*]; done)), H', ⟨Nat.le_refl _⟩, by repeat (first | exact Drawn0.refl _ | apply Drawn0.step)⟩
          case round =>
            clear H'
            try clear c2
            try clear c2b0
            try clear p2
            try clear c3
            try clear c3b0
            try clear p4
            try clear q4
            try clear hx4
            try clear p4
            try clear q4
            obtain ⟨x3_2, x5_2, rfl, rfl, HA, HK2, ⟨m2, rfl⟩⟩ := hrel
            cases gk with
            | zero => exact absurd HA.out (by simp [paternosterref02_Of.l1])
            | succ k2 =>
              have H := HA.out
              clear HA
              simp only [paternosterref02_Of.l1] at H
              by_cases c5 : x5_2 < 8
              · rw [if_pos c5] at H
                have c5b0 : decide (x5_2 < 8) = true := decide_eq_true c5
                clear c5
                by_cases c6 : (Int.tmod x3_2 2) = 1
                · rw [if_pos c6] at H
                  have c6b0 : ((Int.tmod x3_2 2) == 1) = true := beq_iff_eq.mpr c6
                  have c6b1 : ((Int.tmod x3_2 2) != 1) = false := bne_eq_false_iff_eq.mpr c6
                  clear c6
                  have H' := Aside0.mk H
                  clear H
                  go_wp2
                  go_roundg k2
                  case measure => have := HK1.out; have := HK2.out; omega
                  case rel => exact ⟨(Go.bits .xor .u32 ((Int.tdiv x3_2 2) % 4294967296) 3988292384), (wrap64 (x5_2 + 1)), (by first | rfl | (simp; done) | (simp [*]; done)), (by first | rfl | (simp; done) | (simp [*]; done)), H', ⟨by have := HK1.out; have := HK2.out; omega⟩, by repeat (first | exact Drawn0.refl _ | apply Drawn0.step)⟩
                · rw [if_neg c6] at H
                  have c6b0 : ((Int.tmod x3_2 2) == 1) = false := beq_eq_false_iff_ne.mpr c6
                  have c6b1 : ((Int.tmod x3_2 2) != 1) = true := bne_iff_ne.mpr c6
                  have H' := Aside0.mk H
                  clear H
                  go_wp2
                  go_roundg k2
                  case measure => have := HK1.out; have := HK2.out; omega
                  case rel => exact ⟨((Int.tdiv x3_2 2) % 4294967296), (wrap64 (x5_2 + 1)), (by first | rfl | (simp; done) | (simp [*]; done)), (by first | rfl | (simp; done) | (simp [*]; done)), H', ⟨by have := HK1.out; have := HK2.out; omega⟩, by repeat (first | exact Drawn0.refl _ | apply Drawn0.step)⟩
              · rw [if_neg c5] at H
                have c5b0 : decide (x5_2 < 8) = false := decide_eq_false c5
                clear c5
                have H' := Aside0.mk H
                clear H
                go_wp2
                go_roundg k2
                case measure => have := HK1.out; have := HK2.out; omega
                case rel => exact ⟨(x3_2), (wrap64 (x4_1 + 1)), (by first | rfl | (simp; done) | (simp [*]; done)), (by first | rfl | (simp; done) | (simp [*]; done)), H', ⟨by have := HK1.out; have := HK2.out; omega⟩, by repeat (first | exact Drawn0.refl _ | apply Drawn0.step)⟩
        · rw [if_neg c3] at H
          exact absurd H (by simp)
      · rw [if_neg c2] at H
        have c2b0 : decide (x4_1 < (a0.size : Int)) = false := decide_eq_false c2
        clear c2
        obtain rfl := Option.some.inj H
        go_wp2
        go_ret
        exact ⟨by first | rfl | (simp; done) | (simp [*]; done), by repeat (first | exact Drawn0.refl _ | apply Drawn0.step)⟩
end Go.Proofs.YtbcijmpkmmcdeaaDoor.PAll
end
section
namespace Go.Proofs.YtbcijmpkmmcdeaaDoor.PAll
open Go.RowKit Go.Proofs.YtbcijmpkmmcdeaaDoorW.PrintWords Go.Proofs.YtbcijmpkmmcdeaaDoorW.PrintLast Go.Proofs.YtbcijmpkmmcdeaaDoorW.PrintMore
attribute [local go_sem] max2_int min2_int max_two min_two max_three min_three max_four min_four
set_option linter.unusedVariables false
set_option linter.unusedSimpArgs false
def paternosterref02_Seal.f (k : Nat) (a0 : ByteArray) : Option (ByteArray) := (paternosterref02_Of.f k a0).bind fun t228 => ((paternosterref01_Num.f k 4 (IntKind.u64.wrap (t228))).bind fun t229 => (if a0.size + t229.size ≤ 9223372036854775807 then (some (a0 ++ t229)) else (none)))
set_option maxHeartbeats 8000000 in
set_option maxRecDepth 100000 in
theorem paternosterref02_Seal.calls (k : Nat) (a0 : ByteArray) (r : ByteArray) (w : World) (h : paternosterref02_Seal.f k a0 = some r) :
    Calls Tryd.prog 55 #[.string a0] w fun e w' => e = .returned (.string r) ∧ Below w.heap.size w w' := by
  have HB := Aside0.mk (Below.refl w.heap.size w)
  have H : ((paternosterref02_Of.f k a0).bind fun t228 => ((paternosterref01_Num.f k 4 (IntKind.u64.wrap (t228))).bind fun t229 => (if a0.size + t229.size ≤ 9223372036854775807 then (some (a0 ++ t229)) else (none)))) = some r := h
  clear h
  replace H := Option.bind_eq_some_iff.mp H
  obtain ⟨t228, A20, H⟩ := H
  replace H : ((paternosterref01_Num.f k 4 (IntKind.u64.wrap (t228))).bind fun t229 => (if a0.size + t229.size ≤ 9223372036854775807 then (some (a0 ++ t229)) else (none))) = some r := H
  have A2 := Aside0.mk A20
  clear A20
  replace H := Option.bind_eq_some_iff.mp H
  obtain ⟨t229, A30, H⟩ := H
  replace H : (if a0.size + t229.size ≤ 9223372036854775807 then (some (a0 ++ t229)) else (none)) = some r := H
  have A3 := Aside0.mk A30
  clear A30
  by_cases c4 : a0.size + t229.size ≤ 9223372036854775807
  · rw [if_pos c4] at H
    have c4b0 := eq_true c4
    have c4b1 : decide (a0.size + t229.size ≤ 9223372036854775807) = true := decide_eq_true c4
    try have c4b2 : (9223372036854775807 < a0.size + t229.size) = False := eq_false (Nat.not_lt.2 c4)
    obtain rfl := Option.some.inj H
    go_enter Tryd.func55, Tryd.ntmps55
    go_wp2_with (first | ((with_reducible refine gate_callee (f := 71) rfl ?_); refine goesL_ (some 5) rfl rfl Tryd.func71 (by kernel_rfl) rfl #[.string a0] rfl (by (try simp only [List.map_toArray, List.map_cons, List.map_nil]); first | done | rfl | (simp only [List.length_drop, List.length_take]; rfl)) ?_; (with_reducible refine (paternosterref02_Of.calls k a0 t228 _ A2.out).mono ?_); rintro e w' ⟨rfl, ⟨nd, rfl⟩⟩; refine ⟨_, rfl, ?_⟩) | ((with_reducible refine gate_callee (f := 54) rfl ?_); refine goesL_ (some 7) rfl rfl Tryd.func54 (by kernel_rfl) rfl #[.int .i64 4, .int .u64 (IntKind.u64.wrap (t228))] rfl (by (try simp only [List.map_toArray, List.map_cons, List.map_nil]); first | done | rfl | (simp only [List.length_drop, List.length_take]; rfl)) ?_; (with_reducible refine (paternosterref01_Num.calls k 4 (IntKind.u64.wrap (t228)) t229 _ A3.out).mono ?_); rintro e w5 ⟨rfl, hb⟩; refine ⟨_, rfl, ?_⟩; have n0_ := Aside0.mk (below_step (by repeat (first | (with_reducible first | exact HB.out | apply below_alloc | apply pw_below_drewN | apply below_drew1) | exact HB.out)) hb); clear HB; have HB := n0_; clear n0_; (try clear hb); (try clear hb2); (try clear hk); (try clear hi)))
    go_ret
    exact ⟨by first | rfl | (simp [errW_none, errW_some] <;> rfl) | (simp [*, errW_none, errW_some] <;> rfl), by repeat (first | (with_reducible first | exact HB.out | apply below_alloc | apply pw_below_drewN | apply below_drew1) | exact HB.out)⟩
  · rw [if_neg c4] at H
    exact absurd H (by simp)
end Go.Proofs.YtbcijmpkmmcdeaaDoor.PAll
end
section
namespace Go.Proofs.YtbcijmpkmmcdeaaDoor.PAll
open Go.RowKit Go.Proofs.YtbcijmpkmmcdeaaDoorW.PrintWords Go.Proofs.YtbcijmpkmmcdeaaDoorW.PrintLast Go.Proofs.YtbcijmpkmmcdeaaDoorW.PrintMore
attribute [local go_sem] max2_int min2_int max_two min_two max_three min_three max_four min_four
set_option linter.unusedVariables false
set_option linter.unusedSimpArgs false
def paternosterref02_Open.f (k : Nat) (a0 : ByteArray) : Option (ByteArray × Bool) := if (a0.size : Int) < 4 then (some ((⟨#[]⟩ : ByteArray), false)) else (if 0 ≤ (wrap64 ((a0.size : Int) - 4)) then (if (wrap64 ((a0.size : Int) - 4)) ≤ (a0.size : Int) then ((paternosterref02_Seal.f k (a0.extract 0 ((wrap64 ((a0.size : Int) - 4)) : Int).toNat)).bind fun t230 => (if t230.toList = a0.toList then (some (a0.extract 0 ((wrap64 ((a0.size : Int) - 4)) : Int).toNat, true)) else (some ((⟨#[]⟩ : ByteArray), false)))) else (none)) else (none))
set_option maxHeartbeats 8000000 in
set_option maxRecDepth 100000 in
theorem paternosterref02_Open.calls (k : Nat) (a0 : ByteArray) (r1 : ByteArray) (r2 : Bool) (w : World) (h : paternosterref02_Open.f k a0 = some (r1, r2)) :
    Calls Tryd.prog 47 #[.string a0] w fun e w' => e = .returned (.tuple #[.string r1, .bool r2]) ∧ Below w.heap.size w w' := by
  have HB := Aside0.mk (Below.refl w.heap.size w)
  have H : (if (a0.size : Int) < 4 then (some ((⟨#[]⟩ : ByteArray), false)) else (if 0 ≤ (wrap64 ((a0.size : Int) - 4)) then (if (wrap64 ((a0.size : Int) - 4)) ≤ (a0.size : Int) then ((paternosterref02_Seal.f k (a0.extract 0 ((wrap64 ((a0.size : Int) - 4)) : Int).toNat)).bind fun t230 => (if t230.toList = a0.toList then (some (a0.extract 0 ((wrap64 ((a0.size : Int) - 4)) : Int).toNat, true)) else (some ((⟨#[]⟩ : ByteArray), false)))) else (none)) else (none))) = some (r1, r2) := h
  clear h
  by_cases c2 : (a0.size : Int) < 4
  · rw [if_pos c2] at H
    have c2b0 : decide ((a0.size : Int) < 4) = true := decide_eq_true c2
    have c2b1 : decide (a0.size < 4) = true := decide_eq_true (by omega)
    clear c2
    simp only [Option.some.injEq, Prod.mk.injEq] at H
    obtain ⟨rfl, rfl⟩ := H
    go_enter Tryd.func47, Tryd.ntmps47
    go_wp2
    go_ret2
    exact ⟨by first | rfl | (simp [errW_none, errW_some] <;> rfl) | (simp [*, errW_none, errW_some] <;> rfl), by repeat (first | (with_reducible first | exact HB.out | apply below_alloc | apply pw_below_drewN | apply below_drew1) | exact HB.out)⟩
  · rw [if_neg c2] at H
    have c2b0 : decide ((a0.size : Int) < 4) = false := decide_eq_false c2
    have c2b1 : decide (a0.size < 4) = false := decide_eq_false (by omega)
    clear c2
    obtain ⟨ji3, hji3⟩ : ∃ j_ : Int, (wrap64 ((a0.size : Int) - 4)) = j_ := ⟨_, rfl⟩
    replace H : (if 0 ≤ (ji3) then (if (ji3) ≤ (a0.size : Int) then ((paternosterref02_Seal.f k (a0.extract 0 ((ji3) : Int).toNat)).bind fun t230 => (if t230.toList = a0.toList then (some (a0.extract 0 ((ji3) : Int).toNat, true)) else (some ((⟨#[]⟩ : ByteArray), false)))) else (none)) else (none)) = some (r1, r2) := by first | (rw [hji3] at H; exact H) | (simp only [hji3] at H ⊢; exact H)
    have hji3w : (IntKind.i64.wrap ((a0.size : Int) - 4)) = ji3 := (i64_w _).trans hji3
    by_cases c4 : 0 ≤ (ji3)
    · rw [if_pos c4] at H
      have c4b0 := eq_true c4
      have c4b1 : decide (0 ≤ (ji3)) = true := decide_eq_true c4
      clear c4
      by_cases c5 : (ji3) ≤ (a0.size : Int)
      · rw [if_pos c5] at H
        have c5b0 := eq_true c5
        have c5b1 : decide ((ji3) ≤ (a0.size : Int)) = true := decide_eq_true c5
        clear c5
        replace H := Option.bind_eq_some_iff.mp H
        obtain ⟨t230, A60, H⟩ := H
        replace H : (if t230.toList = a0.toList then (some (a0.extract 0 ((ji3) : Int).toNat, true)) else (some ((⟨#[]⟩ : ByteArray), false))) = some (r1, r2) := H
        have A6 := Aside0.mk A60
        clear A60
        by_cases c7 : t230.toList = a0.toList
        · rw [if_pos c7] at H
          have c7b0 : (t230.toList == a0.toList) = true := beq_iff_eq.mpr c7
          have c7b1 : (t230.toList != a0.toList) = false := bne_eq_false_iff_eq.mpr c7
          clear c7
          have c8b0 := eq_true (of_decide_eq_true (by first | (with_reducible assumption) | assumption) : 0 ≤ (ji3))
          have c9b0 := eq_true (of_decide_eq_true (by first | (with_reducible assumption) | assumption) : (ji3) ≤ (a0.size : Int))
          simp only [Option.some.injEq, Prod.mk.injEq] at H
          obtain ⟨rfl, rfl⟩ := H
          go_enter Tryd.func47, Tryd.ntmps47
          go_wp2_with (first | (go_at_call 55; (with_reducible refine (paternosterref02_Seal.calls k (a0.extract 0 ((ji3) : Int).toNat) t230 _ A6.out).mono ?_); rintro e w10 ⟨rfl, hb⟩; have n0_ := Aside0.mk (below_step (by repeat (first | (with_reducible first | exact HB.out | apply below_alloc | apply pw_below_drewN | apply below_drew1) | exact HB.out)) hb); clear HB; have HB := n0_; clear n0_; (try clear hb); (try clear hb2); (try clear hk); (try clear hi)))
          go_ret2
          exact ⟨by first | rfl | (simp [errW_none, errW_some] <;> rfl) | (simp only [← hji3]; first | rfl | (simp [errW_none, errW_some] <;> rfl)) | (simp [*, errW_none, errW_some] <;> rfl), by repeat (first | (with_reducible first | exact HB.out | apply below_alloc | apply pw_below_drewN | apply below_drew1) | exact HB.out)⟩
        · rw [if_neg c7] at H
          have c7b0 : (t230.toList == a0.toList) = false := beq_eq_false_iff_ne.mpr c7
          have c7b1 : (t230.toList != a0.toList) = true := bne_iff_ne.mpr c7
          simp only [Option.some.injEq, Prod.mk.injEq] at H
          obtain ⟨rfl, rfl⟩ := H
          go_enter Tryd.func47, Tryd.ntmps47
          go_wp2_with (first | (go_at_call 55; (with_reducible refine (paternosterref02_Seal.calls k (a0.extract 0 ((ji3) : Int).toNat) t230 _ A6.out).mono ?_); rintro e w11 ⟨rfl, hb⟩; have n0_ := Aside0.mk (below_step (by repeat (first | (with_reducible first | exact HB.out | apply below_alloc | apply pw_below_drewN | apply below_drew1) | exact HB.out)) hb); clear HB; have HB := n0_; clear n0_; (try clear hb); (try clear hb2); (try clear hk); (try clear hi)))
          go_ret2
          exact ⟨by first | rfl | (simp [errW_none, errW_some] <;> rfl) | (simp only [← hji3]; first | rfl | (simp [errW_none, errW_some] <;> rfl)) | (simp [*, errW_none, errW_some] <;> rfl), by repeat (first | (with_reducible first | exact HB.out | apply below_alloc | apply pw_below_drewN | apply below_drew1) | exact HB.out)⟩
      · rw [if_neg c5] at H
        exact absurd H (by simp)
    · rw [if_neg c4] at H
      exact absurd H (by simp)
end Go.Proofs.YtbcijmpkmmcdeaaDoor.PAll
end
