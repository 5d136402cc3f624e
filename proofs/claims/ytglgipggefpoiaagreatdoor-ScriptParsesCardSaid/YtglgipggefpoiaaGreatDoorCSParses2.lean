/- Texts of mine, put together (no statement stands here). -/
import Derived.Below
import Derived.Orders
import Derived.Laws.Rows
import Derived.WalkLawsBesides
import Derived.WalkSpells
import Derived.Deep.LoopGhost
import Derived.Conc.MuLone
import Derived.Great.Walk
import Derived.Laws.LoneSync
import Derived.Laws.Small
import Derived.Laws.Pointers
import Derived.Laws.Cover3
import Derived.Deep.AppendLies
import Derived.Laws.CopyRow
section
namespace Go.Sx
open Go.RowKit
set_option linter.unusedVariables false
set_option linter.unusedSimpArgs false
structure Fr where
  n : Nat
  ds : List Deferred
instance : Coe Fr Nat := ⟨Fr.n⟩
abbrev Env := List (Nat × Value)
def look (t : Nat) : Env → Option Value
  | [] => none
  | (u, v) :: r => bif Nat.beq t u then some v else look t r
inductive Item where
  | blk (b : Nat) (cs : List Value) (T : TypeId)
  | ro (F : Nat → Prop) (w : World)
  | own (base : Nat) (e : TypeId) (size : Nat) (v : Value) (n : Nat) (xs : List Value)
  | obj (b : Nat) (o : Obj)
  | rd (A : Option Addr) (cs : List Value)
  | fam (bs : List (Nat × List Value × TypeId))
def Item.foot : Item → Nat → Prop
  | .blk b _ _, k => k = b
  | .ro F _, k => F k
  | .own _ _ _ v _ _, k => v.ownBlock = some k
  | .obj b _, k => k = b
  | .rd A cs, k => cs ≠ [] ∧ ∃ ad, A = some ad ∧ k = ad.block
  | .fam bs, k => ∃ x ∈ bs, x.1 = k
def Item.sh : Item → Bool
  | .ro _ _ => true
  | .rd _ _ => true
  | _ => false
def Apart (x y : Item) : Prop := (x.sh && y.sh) = true ∨ ∀ k, x.foot k → ¬ y.foot k
theorem Apart.l {x y : Item} (h : Apart x y) (hx : x.sh = false) : ∀ k, x.foot k → ¬ y.foot k := h.elim (fun h => by rw [hx] at h; cases h) id
theorem Apart.r {x y : Item} (h : Apart x y) (hy : y.sh = false) : ∀ k, x.foot k → ¬ y.foot k := h.elim (fun h => by rw [hy, Bool.and_false] at h; cases h) id
theorem Apart.symm {x y : Item} (h : Apart x y) : Apart y x := h.elim (fun h => .inl (by rw [Bool.and_comm]; exact h)) (fun h => .inr fun k hk hk2 => h k hk2 hk)
def Item.ok (w : World) : Item → Prop
  | .blk b cs T => w.heap[b]? = some (.cells cs.toArray T (0, 0))
  | .ro F wR => ∀ k, F k → w.heap[k]? = wR.heap[k]?
  | .own base e size v n xs => w.ownsRow base e size v n xs
  | .obj b o => w.heap[b]? = some o
  | .rd A cs => cs = [] ∨ ∃ ad, A = some ad ∧ ∀ (j : Nat) u, cs[j]? = some u → w.cell? (ad.add j) = some u
  | .fam bs => (bs.map (·.1)).Nodup ∧ ∀ x ∈ bs, w.heap[x.1]? = some (.cells x.2.1.toArray x.2.2 (0, 0))
theorem add_block (ad : Addr) (j : Nat) : (ad.add j).block = ad.block := by unfold Addr.add; split <;> rfl
theorem cell_move {w w1 : World} {ad : Addr} (h : w1.heap[ad.block]? = w.heap[ad.block]?) : w1.cell? ad = w.cell? ad := by unfold World.cell?; rw [h]
theorem Item.ok_move {w w1 : World} {it : Item} (h : it.ok w) (hm : ∀ k, it.foot k → w1.heap[k]? = w.heap[k]?) : it.ok w1 := by
  cases it with
  | blk b cs T => exact (hm b rfl).trans h
  | ro F wR => exact fun k hk => (hm k hk).trans (h k hk)
  | obj b o => exact (hm b rfl).trans h
  | fam bs => exact ⟨h.1, fun x hx => (hm x.1 ⟨x, hx, rfl⟩).trans (h.2 x hx)⟩
  | rd A cs =>
    rcases h with h | ⟨ad, rfl, h⟩
    · exact .inl h
    · by_cases hc : cs = []
      · exact .inl hc
      · exact .inr ⟨ad, rfl, fun j u hu => by rw [cell_move (w := w) (by rw [add_block]; exact hm _ ⟨hc, ad, rfl, rfl⟩)]; exact h j u hu⟩
  | own base e size v n xs =>
    obtain ⟨h1, h2⟩ := h
    refine ⟨h1, ?_⟩
    rcases h2 with h2 | ⟨g, cap, cur, rfl, hg, hh, r⟩
    · exact .inl h2
    · exact .inr ⟨g, cap, cur, rfl, hg, (hm g rfl).trans hh, r⟩
structure HeapOK (w0 : World) (hp : List Item) (w : World) : Prop where
  os : w.os = w0.os
  tape : w.tape = w0.tape
  output : w.output = w0.output
  size : w0.heap.size ≤ w.heap.size
  ok : ∀ it ∈ hp, it.ok w
  bound : ∀ it ∈ hp, ∀ k, it.foot k → k < w.heap.size
  apart : hp.Pairwise Apart
theorem HeapOK.below {w0 w w1 : World} {hp : List Item} (h : HeapOK w0 hp w) (hb : Below w.heap.size w w1) : HeapOK w0 hp w1 where
  os := hb.os.trans h.os
  tape := hb.tape.trans h.tape
  output := hb.output.trans h.output
  size := Nat.le_trans h.size hb.size
  ok := fun it hi => Item.ok_move (h.ok it hi) (fun k hk => hb.block k (h.bound it hi k hk))
  bound := fun it hi k hk => Nat.lt_of_lt_of_le (h.bound it hi k hk) hb.size
  apart := h.apart
theorem HeapOK.drawn {w0 w : World} {hp : List Item} (h : HeapOK w0 hp w) (n : Nat) : HeapOK w0 hp { w with drawn := n } := ⟨h.os, h.tape, h.output, h.size, fun it hi => Item.ok_move (h.ok it hi) (fun _ _ => rfl), h.bound, h.apart⟩
theorem HeapOK.sub {w0 w : World} {hp hp' : List Item} (h : HeapOK w0 hp w) (hs : hp'.Sublist hp) : HeapOK w0 hp' w :=
  ⟨h.os, h.tape, h.output, h.size, fun it hi => h.ok it (hs.subset hi), fun it hi => h.bound it (hs.subset hi), h.apart.sublist hs⟩
def Item.new (b : Nat) : Obj → Item
  | .cells c e (0, 0) => .blk b c.toList e
  | o => .obj b o
theorem HeapOK.alloc {w0 w : World} {hp : List Item} (h : HeapOK w0 hp w) (o : Obj) : HeapOK w0 (.obj w.heap.size o :: hp) (w.alloc o) where
  os := h.os
  tape := h.tape
  output := h.output
  size := by have := h.size; rw [show (w.alloc o).heap.size = w.heap.size + 1 from Array.size_push ..]; omega
  ok := by
    intro it hi
    rcases List.mem_cons.1 hi with rfl | hi
    · exact heap_alloc_new w o
    · exact Item.ok_move (h.ok it hi) (fun k hk => Below.heap_alloc w o k (h.bound it hi k hk))
  bound := by
    intro it hi k hk
    have hs : (w.alloc o).heap.size = w.heap.size + 1 := Array.size_push ..
    rcases List.mem_cons.1 hi with rfl | hi
    · have : k = w.heap.size := hk
      omega
    · have := h.bound it hi k hk
      omega
  apart := by
    refine List.pairwise_cons.2 ⟨fun it hi => .inr fun k hk hk2 => ?_, h.apart⟩
    have : k = w.heap.size := hk
    have := h.bound it hi k hk2
    omega
theorem HeapOK.allocRow {w0 w : World} {hp : List Item} (h : HeapOK w0 hp w) (cs : List Value) (T : TypeId) : HeapOK w0 (.blk w.heap.size cs T :: hp) (w.alloc (.cells cs.toArray T (0, 0))) := by
  have h1 := h.alloc (.cells cs.toArray T (0, 0))
  refine ⟨h1.os, h1.tape, h1.output, h1.size, ?_, ?_, ?_⟩
  · intro it hi
    rcases List.mem_cons.1 hi with rfl | hi
    · exact h1.ok (.obj w.heap.size (.cells cs.toArray T (0, 0))) List.mem_cons_self
    · exact h1.ok it (List.mem_cons_of_mem _ hi)
  · intro it hi k hk
    rcases List.mem_cons.1 hi with rfl | hi
    · exact h1.bound (.obj w.heap.size (.cells cs.toArray T (0, 0))) List.mem_cons_self k hk
    · exact h1.bound it (List.mem_cons_of_mem _ hi) k hk
  · have := List.pairwise_cons.1 h1.apart
    exact List.pairwise_cons.2 ⟨fun it hi => .inr ((this.1 it hi).l rfl), this.2⟩
def EnvOK (env : Env) (a : Act) : Prop := ∀ t v, look t env = some v → a.tmps.getD t undef = v
structure Holds (w0 : World) (N : Fr) (env : Env) (hp : List Item) (a : Act) (w : World) : Prop where
  size : a.tmps.size = N
  defers : a.defers = N.ds
  env : EnvOK env a
  heap : HeapOK w0 hp w
theorem look_cons (t u : Nat) (v : Value) (r : Env) : look t ((u, v) :: r) = if t = u then some v else look t r := by
  by_cases h : t = u
  · subst h; simp [look]
  · simp only [look, if_neg h]
    have : Nat.beq t u = false := by
      cases hb : Nat.beq t u with
      | false => rfl
      | true => exact absurd (Nat.eq_of_beq_eq_true hb) h
    rw [this]; rfl
theorem EnvOK.put {env : Env} {a : Act} (h : EnvOK env a) (d : Nat) (v : Value) (hd : d < a.tmps.size) : EnvOK ((d, v) :: env) (a.put (some d) v) := by
  intro t x hx
  rw [look_cons] at hx
  show (a.tmps.setIfInBounds d v).getD t undef = x
  by_cases ht : t = d
  · subst ht
    rw [if_pos rfl] at hx
    cases hx
    simp [Array.getD_eq_getD_getElem?, hd]
  · rw [if_neg ht] at hx
    have := h t x hx
    rw [← this]
    simp [Array.getD_eq_getD_getElem?, Array.getElem?_setIfInBounds_ne (Ne.symm ht)]
theorem Holds.put {w0 : World} {N : Fr} {env : Env} {hp hp' : List Item} {a : Act} {w w' : World} (h : Holds w0 N env hp a w) (d : Nat) (v : Value) (hd : d < N) (hh : HeapOK w0 hp' w') : Holds w0 N ((d, v) :: env) hp' (a.put (some d) v) w' :=
  ⟨by simp [Act.put, h.size], h.defers, h.env.put d v (by rw [h.size]; exact hd), hh⟩
def evE (x : Operand) (env : Env) : Option Value :=
  match x with
  | .tmp t => look t env
  | .const v => some v
  | .global g => some (.pointer (some ⟨g, 0, none⟩))
  | .func f => some (.func (.func f) #[] #[])
theorem ev_of {env : Env} {a : Act} (h : EnvOK env a) {x : Operand} {v : Value} (hx : evE x env = some v) : a.eval x = v := by
  cases x with
  | tmp t => exact h t v hx
  | const c => cases hx; rfl
  | global g => cases hx; rfl
  | func f => cases hx; rfl
def Yes (P : Program) (w : World) (v : Value) : Result Go.Next → Prop
  | .ok (.value u) w' => u = v ∧ Below w.heap.size w w'
  | .ok (.enter f args) w' => Calls P f args w' (fun e w'' => e = .returned v ∧ Below w.heap.size w w'')
  | _ => False
def OpQ (P : Program) (o : Oper) (env : Env) (w0 : World) (hp : List Item) (v : Value) : Prop :=
  ∀ (a : Act) (w : World), EnvOK env a → HeapOK w0 hp w → Yes P w v ((execOp a.eval o).run P w)
theorem OpQ.wp {P : Program} {o : Oper} {env : Env} {w0 : World} {hp : List Item} {v : Value} (h : OpQ P o env w0 hp v) {a : Act} {w : World} (he : EnvOK env a) (hh : HeapOK w0 hp w) {K : Act → World → Prop} {Q : Exit → Act → World → Prop}
    (k : ∀ w', Below w.heap.size w w' → K (a.put o.dst v) w') : o.wp P a w K Q := by
  have := h a w he hh
  unfold Oper.wp
  generalize (execOp a.eval o).run P w = r at this
  cases r with
  | halt x w' => exact this.elim
  | ok n w' =>
    cases n <;> try exact this.elim
    · obtain ⟨rfl, hb⟩ := this
      exact k w' hb
    · rw [Oper.upon_enter]
      refine Calls.mono this ?_
      rintro e w'' ⟨rfl, hb⟩
      exact k w'' hb
def WL (P : Program) (ops : Array Oper) (Q : Exit → Act → World → Prop) (w0 : World) (N : Fr) (l : List Oper) (env : Env) (hp : List Item) : Prop :=
  ∀ a w, Holds w0 N env hp a w → wpList P ops Q l a w
def WC (P : Program) (c : Code) (Q : Exit → Act → World → Prop) (w0 : World) (N : Fr) (env : Env) (hp : List Item) : Prop :=
  ∀ a w, Holds w0 N env hp a w → c.wp P Q a w
def FQ (Q : Exit → Act → World → Prop) (e : Exit) (w0 : World) (N : Fr) (env : Env) (hp : List Item) : Prop :=
  ∀ a w, Holds w0 N env hp a w → Q e a w
section
variable {P : Program} {ops : Array Oper} {Q : Exit → Act → World → Prop} {w0 : World} {N : Fr} {l : List Oper} {env : Env} {hp : List Item} {o : Oper}
theorem wl_nil (h : FQ Q .normal w0 N env hp) : WL P ops Q w0 N [] env hp := fun a w hh => wpList_nil (h a w hh)
theorem wl_q {d : Nat} {v : Value} (hq : OpQ P o env w0 hp v) (hg : o.guard = none) (hd : o.dst = some d) (hN : d < N) (k : WL P ops Q w0 N l ((d, v) :: env) hp) : WL P ops Q w0 N (o :: l) env hp := by
  intro a w h
  refine wpList_plain hg fun K hK => hq.wp h.env h.heap fun w' hb => hK _ _ ?_
  rw [hd]
  exact k _ _ (h.put d v hN (h.heap.below hb))
theorem wl_skip {d j tj : Nat} {b : Bool} (hg : o.guard = some (j, !b)) (hj : (ops[j]?).bind (·.dst) = some tj) (hb : look tj env = some (.bool b)) (hd : o.dst = some d) (hN : d < N) (k : WL P ops Q w0 N l ((d, undef) :: env) hp) : WL P ops Q w0 N (o :: l) env hp := by
  intro a w h
  have hw : Region.wanted o (yielded ops a.tmps) = false := by
    have h1 := h.env tj _ hb
    have h2 : a.tmps[tj]?.getD undef = .bool b := by rw [← Array.getD_eq_getD_getElem?]; exact h1
    simp only [Region.wanted, hg, yielded, hj]
    cases hx : a.tmps[tj]? with
    | none => rw [hx] at h2; cases b <;> simp_all [undef]
    | some x => rw [hx] at h2; simp at h2; subst h2; cases b <;> simp [hx]
  unfold wpList
  rw [hw]
  simp only [Bool.false_eq_true, if_false]
  rw [hd]
  exact k _ _ (h.put d undef hN h.heap)
theorem wl_want {d j tj : Nat} {b : Bool} {v : Value} (hq : OpQ P o env w0 hp v) (hg : o.guard = some (j, b)) (hj : (ops[j]?).bind (·.dst) = some tj) (hb : look tj env = some (.bool b)) (hd : o.dst = some d) (hN : d < N) (k : WL P ops Q w0 N l ((d, v) :: env) hp) : WL P ops Q w0 N (o :: l) env hp := by
  intro a w h
  have hw : Region.wanted o (yielded ops a.tmps) = true := by
    have h1 := h.env tj _ hb
    have h2 : a.tmps[tj]?.getD undef = .bool b := by rw [← Array.getD_eq_getD_getElem?]; exact h1
    simp only [Region.wanted, hg, yielded, hj]
    cases hx : a.tmps[tj]? with
    | none => rw [hx] at h2; cases b <;> simp_all [undef]
    | some x => rw [hx] at h2; simp at h2; subst h2; simp [hx]
  unfold wpList
  rw [hw]
  simp only [if_true]
  refine .inl (hq.wp h.env h.heap fun w' hb => ?_)
  rw [hd]
  exact k _ _ (h.put d v hN (h.heap.below hb))
theorem wc_region {id : Nat} {ol : List Oper} (h : WL P ol.toArray Q w0 N ol env hp) : WC P (.region id ol.toArray false) Q w0 N env hp := fun a w hh => wp_region_lit (h a w hh)
theorem wc_seq {x y : Code} (h : WC P x (Exit.then (y.wp P Q) Q) w0 N env hp) : WC P (.seq x y) Q w0 N env hp := fun a w hh => wp_seq (h a w hh)
theorem wc_block {id : Nat} {c : Code} (h : WC P c (Exit.inBlock id Q) w0 N env hp) : WC P (.block id c) Q w0 N env hp := fun a w hh => wp_block (h a w hh)
theorem wc_skip (h : FQ Q .normal w0 N env hp) : WC P .skip Q w0 N env hp := fun a w hh => wp_skip (h a w hh)
theorem wc_exit {id : Nat} (h : FQ Q (.exit id) w0 N env hp) : WC P (.exit id) Q w0 N env hp := fun a w hh => wp_exit (h a w hh)
theorem wc_ret (h : FQ Q .ret w0 N env hp) : WC P .ret Q w0 N env hp := fun a w hh => wp_ret (h a w hh)
theorem wc_label {n : Nat} (h : FQ Q .normal w0 N env hp) : WC P (.label n) Q w0 N env hp := fun a w hh => wp_label (h a w hh)
theorem wc_cond {c : Operand} {x y : Code} {b : Bool} (hc : evE c env = some (.bool b)) (ht : b = true → WC P x Q w0 N env hp) (hf : b = false → WC P y Q w0 N env hp) : WC P (.cond c x y) Q w0 N env hp :=
  fun a w hh => wp_cond_split (ev_of hh.env hc) (fun h => ht h a w hh) (fun h => hf h a w hh)
theorem fq_then {y : Code} {Q' : Exit → Act → World → Prop} (h : WC P y Q w0 N env hp) : FQ (Exit.then (y.wp P Q) Q') .normal w0 N env hp := h
theorem fq_then_ret {n : Act → World → Prop} (h : FQ Q .ret w0 N env hp) : FQ (Exit.then n Q) .ret w0 N env hp := h
theorem fq_then_exit {n : Act → World → Prop} {id : Nat} (h : FQ Q (.exit id) w0 N env hp) : FQ (Exit.then n Q) (.exit id) w0 N env hp := h
theorem fq_block {id : Nat} (h : FQ Q .normal w0 N env hp) : FQ (Exit.inBlock id Q) .normal w0 N env hp := h
theorem fq_block_ret {id : Nat} (h : FQ Q .ret w0 N env hp) : FQ (Exit.inBlock id Q) .ret w0 N env hp := h
theorem fq_block_hit {id : Nat} (h : FQ Q .normal w0 N env hp) : FQ (Exit.inBlock id Q) (.exit id) w0 N env hp := fun a w hh => by
  simp only [Exit.inBlock, if_true]
  exact h a w hh
theorem fq_ret1 {fn : Func} {R : Ending → World → Prop} {t : Nat} {v : Value} (hr : fn.results = #[.tmp t]) (hv : look t env = some v) (h : ∀ w, HeapOK w0 hp w → R (.returned v) w) (hd0 : N.ds = [] := by rfl) : FQ (bodyPost P fn R) .ret w0 N env hp := fun a w hh =>
  bodyPost_ret (results_tmp hr a.tmps P w) (hh.defers.trans hd0) (by rw [hh.env t v hv]; exact h w hh.heap)
structure Less (env : Env) (hp : List Item) (env' : Env) (hp' : List Item) : Prop where
  env : ∀ p ∈ env', look p.1 env = some p.2
  hp : hp'.Sublist hp
theorem look_mem {t : Nat} {v : Value} : ∀ {env : Env}, look t env = some v → (t, v) ∈ env
  | [], h => by cases h
  | (u, x) :: r, h => by
    rw [look_cons] at h
    by_cases e : t = u
    · subst e; rw [if_pos rfl] at h; cases h; exact List.mem_cons_self
    · rw [if_neg e] at h; exact List.mem_cons_of_mem _ (look_mem h)
theorem Holds.less {env' : Env} {hp' : List Item} {a : Act} {w : World} (h : Holds w0 N env hp a w) (hl : Less env hp env' hp') : Holds w0 N env' hp' a w :=
  ⟨h.size, h.defers, fun t v ht => h.env t v (hl.env (t, v) (look_mem ht)), h.heap.sub hl.hp⟩
def Next {ι : Type} (w0 : World) (N : Fr) (E : ι → Env) (J : ι → List Item) (C : ι → Prop) (μ : ι → Nat) (i : ι) (a : Act) (w : World) : Prop := ∃ j, C j ∧ μ j < μ i ∧ Holds w0 N (E j) (J j) a w
theorem wc_loop {ι : Type} {c : Code} (E : ι → Env) (J : ι → List Item) (C : ι → Prop) (μ : ι → Nat) (i0 : ι) (hC : C i0) (h0 : Less env hp (E i0) (J i0))
    (round : ∀ i, C i → WC P c (Exit.then (Next w0 N E J C μ i) Q) w0 N (E i) (J i)) : WC P (.loop c) Q w0 N env hp := by
  intro a w hh
  refine wp_loop_ghost (fun n a w => ∃ i, C i ∧ μ i = n ∧ Holds w0 N (E i) (J i) a w) (μ i0) ⟨i0, hC, rfl, hh.less h0⟩ ?_
  rintro n a w ⟨i, hi, rfl, h⟩
  refine wp_mono (round i hi a w h) fun e a w q => ?_
  cases e with
  | normal =>
    obtain ⟨j, hj, hlt, hh⟩ := q
    exact ⟨μ j, hlt, j, hj, rfl, hh⟩
  | exit id => exact q
  | goto l => exact q
  | ret => exact q
  | panic ch => exact q
  | outgrown => exact q
theorem fq_next {ι : Type} {E : ι → Env} {J : ι → List Item} {C : ι → Prop} {μ : ι → Nat} {i : ι} (j : ι) (hC : C j) (hμ : μ j < μ i) (hl : Less env hp (E j) (J j)) : FQ (Exit.then (Next w0 N E J C μ i) Q) .normal w0 N env hp :=
  fun a w hh => ⟨j, hC, hμ, hh.less hl⟩
theorem wl_eq {t : Nat} {v v' : Value} (ht : look t env = some v) (e : v = v') (k : WL P ops Q w0 N l ((t, v') :: env) hp) : WL P ops Q w0 N l env hp := fun a w hh => k a w
  ⟨hh.size, hh.defers, fun u x hu => by
    rw [look_cons] at hu
    by_cases h : u = t
    · subst h; rw [if_pos rfl] at hu; cases hu; rw [← e]; exact hh.env _ _ ht
    · rw [if_neg h] at hu; exact hh.env _ _ hu, hh.heap⟩
theorem q_run {v : Value} (h : ∀ (a : Act) (w : World), EnvOK env a → HeapOK w0 hp w → (execOp a.eval o).run P w = .ok (.value v) w) : OpQ P o env w0 hp v := fun a w he hh => by
  rw [h a w he hh]
  exact ⟨rfl, Below.refl _ _⟩
theorem q_move {x : Operand} {v : Value} (ho : o.op = .move x) (hx : evE x env = some v) : OpQ P o env w0 hp v := q_run fun a w he hh => by
  simp [execOp, ho, ev_of he hx]
theorem q_assign {x : Operand} {v : Value} (ho : o.op = .assign x) (hx : evE x env = some v) : OpQ P o env w0 hp v := q_run fun a w he hh => by
  simp [execOp, ho, ev_of he hx]
theorem q_pick {c x y : Operand} {b : Bool} {v : Value} (ho : o.op = .pick c x y) (hc : evE c env = some (.bool b)) (hv : (bif b then evE x env else evE y env) = some v) : OpQ P o env w0 hp v := q_run fun a w he hh => by
  cases b
  · simp [execOp, ho, ev_of he hc, ev_of he (show evE y env = some v from hv), asBool]
  · simp [execOp, ho, ev_of he hc, ev_of he (show evE x env = some v from hv), asBool]
def intBin : BinOp → IntKind → Int → Int → Option Value
  | .add, k, a, b => some (.int k (k.wrap (a + b)))
  | .sub, k, a, b => some (.int k (k.wrap (a - b)))
  | .mul, k, a, b => some (.int k (k.wrap (a * b)))
  | .and, k, a, b => some (.int k (bits .and k a b))
  | .or, k, a, b => some (.int k (bits .or k a b))
  | .xor, k, a, b => some (.int k (bits .xor k a b))
  | .andNot, k, a, b => some (.int k (bits .andNot k a b))
  | .eql, _, a, b => some (.bool (a == b))
  | .neq, _, a, b => some (.bool (a != b))
  | .lss, _, a, b => some (.bool (decide (a < b)))
  | .leq, _, a, b => some (.bool (decide (a ≤ b)))
  | .gtr, _, a, b => some (.bool (decide (b < a)))
  | .geq, _, a, b => some (.bool (decide (b ≤ a)))
  | _, _, _, _ => none
theorem run_intBin {op : BinOp} {t : TypeId} {k : IntKind} {a b : Int} {v : Value} (hv : intBin op k a b = some v) (x y : Operand) (w : World) : (do eqGuard op t x y (.int k a) (.int k b); binOp op t (.int k a) (.int k b) : Sem Value).run P w = .ok v w := by
  have hk : ∀ (α : Type) (p q : α), (if k ≠ k then p else q) = q := fun _ _ _ => if_neg (by simp)
  cases op <;> simp only [intBin, Option.some.injEq, reduceCtorEq] at hv <;> subst hv <;>
    (simp only [Sem.run_bind, eqGuard, binOp, hk]; rfl)
theorem q_bin {op : BinOp} {t u : TypeId} {x y : Operand} {k : IntKind} {a b : Int} {v : Value} (ho : o.op = .binOp op t x y u) (hx : evE x env = some (.int k a)) (hy : evE y env = some (.int k b)) (hv : intBin op k a b = some v) : OpQ P o env w0 hp v := q_run fun A w he hh => by
  have h1 := ev_of he hx
  have h2 := ev_of he hy
  unfold execOp
  simp only [ho, h1, h2, Sem.run_bind, run_intBin hv]
  rfl
theorem q_rem {t u : TypeId} {x y : Operand} {k : IntKind} {a b : Int} (ho : o.op = .binOp .rem t x y u) (hx : evE x env = some (.int k a)) (hy : evE y env = some (.int k b)) (hb : b ≠ 0) : OpQ P o env w0 hp (.int k (a.tmod b)) := q_run fun A w he hh => by
  simp [execOp, ho, ev_of he hx, ev_of he hy, eqGuard, binOp, Op.intDiv, hb]
theorem q_eq {op : BinOp} {t u : TypeId} {x y : Operand} {p q : Value} {c : Bool} (ho : o.op = .binOp op t x y u) (hop : op = .eql ∨ op = .neq) (hx : evE x env = some p) (hy : evE y env = some q)
    (hr : ∀ w : World, (eqGuard op t x y p q).run P w = .ok () w ∧ (binOp op t p q).run P w = .ok (.bool c) w) : OpQ P o env w0 hp (.bool c) := q_run fun A w he hh => by
  simp [execOp, ho, ev_of he hx, ev_of he hy, (hr w).1, (hr w).2]
theorem q_not {t : TypeId} {x : Operand} {b : Bool} (ho : o.op = .unOp .not t x) (hx : evE x env = some (.bool b)) : OpQ P o env w0 hp (.bool !b) := q_run fun A w he hh => by
  simp [execOp, ho, ev_of he hx, Op.unary]
theorem q_conv {s t : TypeId} {x : Operand} {k k' : IntKind} {n : Int} {d : TypeDesc} (ho : o.op = .convert s t x) (hx : evE x env = some (.int k n)) (hs : P.underlying s = some d) (ht : P.underlying t = some (.int k')) : OpQ P o env w0 hp (.int k' (k'.wrap n)) := q_run fun A w he hh => by
  simp [execOp, ho, ev_of he hx, convert, run_underlying hs, run_underlying ht, Conv.intToInt]
theorem q_len {x : Operand} {t e : TypeId} {A : Option Addr} {n c : Nat} (ho : o.op = .call { callee := .builtin .len, args := #[x], argTypes := #[t] }) (hx : evE x env = some (.slice A n c)) (ht : P.underlying t = some (.slice e)) : OpQ P o env w0 hp (.int .i64 n) := q_run fun a w he hh => by
  simp [execOp, ho, ev_of he hx, resolve, invoke, builtin, Builtin.len_, run_underlying ht, goInt]
theorem q_lenS {x : Operand} {t : TypeId} {s : ByteArray} (ho : o.op = .call { callee := .builtin .len, args := #[x], argTypes := #[t] }) (hx : evE x env = some (.string s)) (ht : P.underlying t = some .string) : OpQ P o env w0 hp (.int .i64 s.size) := q_run fun a w he hh => by
  simp [execOp, ho, ev_of he hx, resolve, invoke, builtin, Builtin.len_, run_underlying ht, goInt]
theorem q_extract {x : Operand} {i : Nat} {vs : Array Value} {v : Value} (ho : o.op = .extract x i) (hx : evE x env = some (.tuple vs)) (hv : vs[i]? = some v) : OpQ P o env w0 hp v := q_run fun A w he hh => by
  simp [execOp, ho, ev_of he hx, Instr.extract, hv]
theorem q_nilCheck {x : Operand} {ad : Addr} (ho : o.op = .nilCheck x) (hx : evE x env = some (.pointer (some ad))) : OpQ P o env w0 hp (.pointer (some ad)) := q_run fun A w he hh => by
  simp [execOp, ho, ev_of he hx]
def _root_.Go.Program.fieldOff (P : Program) (T : TypeId) (f : Nat) : Option Nat :=
  match P.underlying T with
  | some (.struct fs) =>
    match fs[f]? with
    | some fl =>
      match P.info? fl.type with
      | some i => if i.size = 0 then none else some fl.offset
      | none => none
    | none => none
  | _ => none
theorem q_fieldAddr {T : TypeId} {x : Operand} {f off : Nat} {ad : Addr} (ho : o.op = .fieldAddr T x f) (hx : evE x env = some (.pointer (some ad))) (hf : P.fieldOff T f = some off) : OpQ P o env w0 hp (.pointer (some (ad.add off))) := q_run fun A w he hh => by
  unfold Program.fieldOff at hf
  split at hf
  case h_2 => cases hf
  rename_i fs hu
  split at hf
  case h_2 => cases hf
  rename_i fl hfl
  split at hf
  case h_2 => cases hf
  rename_i i hi
  split at hf
  · cases hf
  rename_i hs
  cases hf
  simp [execOp, ho, ev_of he hx, Instr.fieldAt, run_underlying hu, hfl, Instr.sureAddr, fieldPlace, sizeOf, typeInfo, hi, hs]
def _root_.Go.Program.sizeIs (P : Program) (T : TypeId) : Option Nat := (P.info? T).map (·.size)
theorem run_sizeOf {T : TypeId} {n : Nat} (h : P.sizeIs T = some n) (w : World) : (sizeOf T).run P w = .ok n w := by
  unfold Program.sizeIs at h
  cases hi : P.info? T with
  | none => rw [hi] at h; cases h
  | some i =>
    rw [hi] at h
    cases h
    simp [sizeOf, typeInfo, hi]
theorem q_index {T E : TypeId} {x y : Operand} {ad : Addr} {n c sz : Nat} {k : IntKind} {i : Int} (ho : o.op = .indexAddr T x y) (hx : evE x env = some (.slice (some ad) n c)) (hy : evE y env = some (.int k i)) (hT : P.underlying T = some (.slice E)) (hs : P.sizeIs E = some sz) (h0 : 0 ≤ i) (h1 : i < n) : OpQ P o env w0 hp (.pointer (some (ad.add (i.toNat * sz)))) := q_run fun A w he hh => by
  simp [execOp, ho, ev_of he hx, ev_of he hy, Instr.indexAt, asIntOf, run_underlying hT, run_sizeOf hs, h0, h1]
def _root_.Go.Program.manyB (P : Program) (T : TypeId) : Option Bool := (P.underlying T).map fun d => match d with | .struct _ | .array _ _ => true | _ => false
theorem run_isAgg {T : TypeId} {b : Bool} (h : P.manyB T = some b) (w : World) : (isAgg T).run P w = .ok b w := by
  unfold Program.manyB at h
  cases hu : P.underlying T with
  | none => rw [hu] at h; cases h
  | some d =>
    rw [hu] at h
    cases h
    unfold isAgg
    rw [Sem.run_bind, run_underlying hu w]
    cases d <;> simp
def Reads (w0 : World) (hp : List Item) (ad : Addr) (cs : List Value) : Prop := ∀ w, HeapOK w0 hp w → ∀ j v, cs[j]? = some v → w.cell? (ad.add j) = some v
theorem add_zero (ad : Addr) : ad.add 0 = ad := rfl
theorem q_load {T : TypeId} {x : Operand} {ad : Addr} {v : Value} (ho : o.op = .load T x) (hx : evE x env = some (.pointer (some ad))) (hT : P.manyB T = some false) (hc : Reads w0 hp ad [v]) : OpQ P o env w0 hp v := q_run fun A w he hh => by
  have h := hc w hh 0 v rfl
  rw [add_zero] at h
  simp [execOp, ho, ev_of he hx, Instr.loadAt, Instr.sureAddr, loadVar, run_isAgg hT, h]
theorem q_loadA {T : TypeId} {x : Operand} {ad : Addr} {cs : List Value} {n : Nat} (ho : o.op = .load T x) (hx : evE x env = some (.pointer (some ad))) (hT : P.manyB T = some true) (hs : P.sizeIs T = some n) (hn : cs.length = n) (hc : Reads w0 hp ad cs) : OpQ P o env w0 hp (.agg cs.toArray) := q_run fun A w he hh => by
  have h := run_loadCells_list (P := P) w ad cs (hc w hh)
  rw [hn] at h
  simp [execOp, ho, ev_of he hx, Instr.loadAt, Instr.sureAddr, loadVar, run_isAgg hT, run_sizeOf hs, h]
theorem HeapOK.upd {A B : List Item} {x y : Item} {w w' : World} (h : HeapOK w0 (A ++ x :: B) w) (hos : w'.os = w.os) (htape : w'.tape = w.tape) (hout : w'.output = w.output) (hsz : w.heap.size ≤ w'.heap.size)
    (hm : ∀ k, k < w.heap.size → ¬ x.foot k → w'.heap[k]? = w.heap[k]?) (hy : y.ok w') (hf : ∀ k, y.foot k → (x.foot k ∨ w.heap.size ≤ k) ∧ k < w'.heap.size) (hx : x.sh = false) : HeapOK w0 (A ++ y :: B) w' := by
  have hap := List.pairwise_append.1 h.apart
  have hap2 := List.pairwise_cons.1 hap.2.1
  have hA : ∀ it ∈ A, ∀ k, it.foot k → ¬ x.foot k := fun it hi => (hap.2.2 it hi x List.mem_cons_self).r hx
  have hB : ∀ it ∈ B, ∀ k, it.foot k → ¬ x.foot k := fun it hi k hk hk2 => (hap2.1 it hi).l hx k hk2 hk
  have bA : ∀ it ∈ A, ∀ k, it.foot k → k < w.heap.size := fun it hi => h.bound it (List.mem_append_left _ hi)
  have bB : ∀ it ∈ B, ∀ k, it.foot k → k < w.heap.size := fun it hi => h.bound it (List.mem_append_right _ (List.mem_cons_of_mem _ hi))
  refine ⟨hos.trans h.os, htape.trans h.tape, hout.trans h.output, Nat.le_trans h.size hsz, ?_, ?_, ?_⟩
  · intro it hi
    rcases List.mem_append.1 hi with hi | hi
    · exact Item.ok_move (h.ok it (List.mem_append_left _ hi)) (fun k hk => hm k (bA it hi k hk) (hA it hi k hk))
    · rcases List.mem_cons.1 hi with rfl | hi
      · exact hy
      · exact Item.ok_move (h.ok it (List.mem_append_right _ (List.mem_cons_of_mem _ hi))) (fun k hk => hm k (bB it hi k hk) (hB it hi k hk))
  · intro it hi k hk
    rcases List.mem_append.1 hi with hi | hi
    · exact Nat.lt_of_lt_of_le (bA it hi k hk) hsz
    · rcases List.mem_cons.1 hi with rfl | hi
      · exact (hf k hk).2
      · exact Nat.lt_of_lt_of_le (bB it hi k hk) hsz
  · refine List.pairwise_append.2 ⟨hap.1, List.pairwise_cons.2 ⟨fun it hi => .inr fun k hk hk2 => ?_, hap2.2⟩, fun it hi it2 hi2 => ?_⟩
    · rcases (hf k hk).1 with h1 | h1
      · exact hB it hi k hk2 h1
      · have := bB it hi k hk2; omega
    · rcases List.mem_cons.1 hi2 with rfl | hi2
      · refine .inr fun k hk hk2 => ?_
        rcases (hf k hk2).1 with h1 | h1
        · exact hA it hi k hk h1
        · have := bA it hi k hk; omega
      · exact hap.2.2 it hi it2 (List.mem_cons_of_mem _ hi2)
theorem split_at {α : Type} {l : List α} {i : Nat} {x : α} (h : l[i]? = some x) (y : α) : l = l.take i ++ x :: l.drop (i + 1) ∧ l.set i y = l.take i ++ y :: l.drop (i + 1) := by
  obtain ⟨hi, rfl⟩ := List.getElem?_eq_some_iff.1 h
  refine ⟨?_, ?_⟩
  · rw [← List.drop_eq_getElem_cons hi, List.take_append_drop]
  · rw [List.set_eq_take_append_cons_drop, if_pos hi]
theorem HeapOK.updAt {i : Nat} {x y : Item} {w w' : World} (h : HeapOK w0 hp w) (hi : hp[i]? = some x) (hos : w'.os = w.os) (htape : w'.tape = w.tape) (hout : w'.output = w.output) (hsz : w.heap.size ≤ w'.heap.size)
    (hm : ∀ k, k < w.heap.size → ¬ x.foot k → w'.heap[k]? = w.heap[k]?) (hy : y.ok w') (hf : ∀ k, y.foot k → (x.foot k ∨ w.heap.size ≤ k) ∧ k < w'.heap.size) (hx : x.sh = false := by rfl) : HeapOK w0 (hp.set i y) w' := by
  obtain ⟨e1, e2⟩ := split_at hi y
  rw [e2]
  rw [e1] at h
  exact h.upd hos htape hout hsz hm hy hf hx
theorem HeapOK.get {i : Nat} {x : Item} {w : World} (h : HeapOK w0 hp w) (hi : hp[i]? = some x) : x.ok w := h.ok x (List.mem_of_getElem? hi)
theorem HeapOK.lt {i b : Nat} {cs : List Value} {T : TypeId} {w : World} (h : HeapOK w0 hp w) (hi : hp[i]? = some (.blk b cs T)) : b < w.heap.size := h.bound _ (List.mem_of_getElem? hi) b rfl
theorem HeapOK.setRow {i b : Nat} {cs cs' : List Value} {T : TypeId} {w : World} (h : HeapOK w0 hp w) (hi : hp[i]? = some (.blk b cs T)) : HeapOK w0 (hp.set i (.blk b cs' T)) (w.setRow b cs'.toArray) := by
  refine h.updAt hi rfl rfl rfl (by simp) (fun k _ hk => setRow_other w b k _ (fun e => hk e)) (setRow_heap w b _ _ T _ (h.get hi)) (fun k hk => ?_)
  refine ⟨.inl hk, ?_⟩
  have : k = b := hk
  subst this
  rw [size_setRow]
  exact h.lt hi
def evL : List Operand → Env → Option (List Value)
  | [], _ => some []
  | x :: r, env => match evE x env, evL r env with
    | some v, some vs => some (v :: vs)
    | _, _ => none
theorem evL_of {a : Act} (he : EnvOK env a) : ∀ {xs : List Operand} {vs : List Value}, evL xs env = some vs → xs.map a.eval = vs
  | [], vs, h => by cases h; rfl
  | x :: r, vs, h => by
    unfold evL at h
    split at h
    · rename_i v us h1 h2
      cases h
      rw [List.map_cons, ev_of he h1, evL_of he h2]
    · cases h
theorem evA_of {a : Act} (he : EnvOK env a) {xs : Array Operand} {vs : List Value} (h : evL xs.toList env = some vs) : xs.map a.eval = vs.toArray := by
  have := evL_of he h
  apply Array.ext'
  rw [Array.toList_map, this]
theorem wl_box {T : TypeId} {x : Operand} {d : Nat} {v : Value} (ho : o.op = .box T x) (hg : o.guard = none) (hd : o.dst = some d) (hN : d < N) (hx : evE x env = some v) {cs : List Value} (hv : v.cells = cs.toArray)
    (k : ∀ b, WL P ops Q w0 N l ((d, .pointer (some ⟨b, 0, none⟩)) :: env) (.blk b cs T :: hp)) : WL P ops Q w0 N (o :: l) env hp := by
  intro a w h
  refine wpList_plain hg fun K hK => ?_
  unfold Oper.wp
  have hr : (execOp a.eval o).run P w = .ok (.value (.pointer (some ⟨w.heap.size, 0, none⟩))) (w.alloc (.cells cs.toArray T (0, 0))) := by
    have h1 := ev_of h.env hx
    simp [execOp, ho, h1, Instr.box, newVar, newRow, hv, newObj, World.alloc_eq]
    rfl
  rw [hr]
  refine hK _ _ ?_
  rw [hd]
  exact k _ _ _ (h.put d _ hN (h.heap.allocRow cs T))
theorem wl_alloc {T : TypeId} {d : Nat} {cs : List Value} (ho : o.op = .alloc T) (hg : o.guard = none) (hd : o.dst = some d) (hN : d < N) (hz : ((P.info? T).bind (·.zero)).map (·.cells) = some cs.toArray)
    (k : ∀ b, WL P ops Q w0 N l ((d, .pointer (some ⟨b, 0, none⟩)) :: env) (.blk b cs T :: hp)) : WL P ops Q w0 N (o :: l) env hp := by
  intro a w h
  refine wpList_plain hg fun K hK => ?_
  unfold Oper.wp
  have hr : (execOp a.eval o).run P w = .ok (.value (.pointer (some ⟨w.heap.size, 0, none⟩))) (w.alloc (.cells cs.toArray T (0, 0))) := by
    cases hi : P.info? T with
    | none => rw [hi] at hz; cases hz
    | some i =>
      cases hz2 : i.zero with
      | none => rw [hi] at hz; simp [hz2] at hz
      | some z =>
        rw [hi] at hz
        simp only [hz2, Option.bind_some, Option.map_some, Option.some.injEq] at hz
        simp [execOp, ho, Instr.alloc, zeroValue, typeInfo, hi, hz2, newVar, newRow, hz, newObj, World.alloc_eq]
        rfl
  rw [hr]
  refine hK _ _ ?_
  rw [hd]
  exact k _ _ _ (h.put d _ hN (h.heap.allocRow cs T))
def evP : List (Nat × Operand) → Env → Option (List (Nat × Value))
  | [], _ => some []
  | (i, x) :: r, env => match evE x env, evP r env with
    | some v, some vs => some ((i, v) :: vs)
    | _, _ => none
theorem evP_of {a : Act} (he : EnvOK env a) : ∀ {xs : List (Nat × Operand)} {vs : List (Nat × Value)}, evP xs env = some vs → xs.map (fun p => (p.1, a.eval p.2)) = vs
  | [], vs, h => by cases h; rfl
  | (i, x) :: r, vs, h => by
    unfold evP at h
    split at h
    · rename_i v us h1 h2
      cases h
      rw [List.map_cons, evP_of he h2]
      simp [ev_of he h1]
    · cases h
theorem evPA_of {a : Act} (he : EnvOK env a) {xs : Array (Nat × Operand)} {vs : List (Nat × Value)} (h : evP xs.toList env = some vs) : (xs.map fun (i, x) => (i, a.eval x)) = vs.toArray := by
  have := evP_of he h
  apply Array.ext'
  rw [Array.toList_map]
  exact this
theorem q_build {T : TypeId} {ps : Array (Nat × Operand)} {vs : List (Nat × Value)} {cs : Array Value} (ho : o.op = .build T ps) (hp_ : evP ps.toList env = some vs) (hb : P.built T vs = some cs) : OpQ P o env w0 hp (.agg cs) := q_run fun A w he hh => by
  have h1 := evPA_of he hp_
  unfold execOp
  simp only [ho, h1, Sem.run_bind, run_build (P := P) w T _ _ hb]
  rfl
theorem wl_buildSlice {T E : TypeId} {n d : Nat} {ps : Array (Nat × Operand)} {vs : List (Nat × Value)} {cs : List Value} (ho : o.op = .buildSlice T n ps) (hg : o.guard = none) (hd : o.dst = some d) (hN : d < N) (hp_ : evP ps.toList env = some vs) (hT : P.underlying T = some (.slice E)) (hb : P.builtSlice E n vs = some cs.toArray)
    (k : ∀ b, WL P ops Q w0 N l ((d, .slice (some ⟨b, 0, none⟩) n n) :: env) (.blk b cs E :: hp)) : WL P ops Q w0 N (o :: l) env hp := by
  intro a w h
  refine Great.wpList_buildSliceTo hg T E n ps ho w.heap.size rfl (some d) hd hT cs.toArray (by rw [evPA_of h.env hp_]; exact hb) ?_
  exact k _ _ _ (h.put d _ hN (h.heap.allocRow cs E))
theorem built_slice {E sz n : Nat} {vs : List Value} {cs : List Value} (hs : P.sizeIs E = some sz) (h0 : 0 < sz) (hz : ((P.info? E).bind (·.zero)).map (fun z => z.cells.size) = some sz) (h1 : ∀ v ∈ vs, v.cells.size = sz) (hn : vs.length = n) (hn0 : 0 < n) (hsm : n * sz ≤ 2 ^ 24) (hc : vs.flatMap (fun v => v.cells.toList) = cs) :
    P.builtSlice E n ((vs.zipIdx 0).map fun x => (x.2, x.1)) = some cs.toArray := by
  unfold Program.sizeIs at hs
  cases hi : P.info? E with
  | none => rw [hi] at hs; cases hs
  | some i =>
    rw [hi] at hs hz
    cases hs
    cases hz2 : i.zero with
    | none => simp [hz2] at hz
    | some z =>
      simp only [hz2, Option.bind_some, Option.map_some, Option.some.injEq] at hz
      unfold Program.builtSlice
      simp only [hi, hz2]
      have hpos : 0 < n * i.size := Nat.mul_pos hn0 h0
      rw [if_neg (show ¬ (n * i.size > 2 ^ 24 ∨ n * i.size = 0) from fun e => e.elim (fun e => Nat.not_lt.2 hsm e) (fun e => by omega))]
      have := Great.fill_whole h0 vs ((Array.range (n * i.size)).map (z.cells[· % z.cells.size]!)) h1 (by simp [hn])
      rw [this, hc]
theorem wl_store {T T' : TypeId} {x y : Operand} {b off i n : Nat} {cs vs cs' : List Value} {v : Value} (ho : o.op = .store T x y) (hg : o.guard = none) (hd : o.dst = none) (hx : evE x env = some (.pointer (some ⟨b, off, none⟩))) (hy : evE y env = some v)
    (hi : hp[i]? = some (.blk b cs T')) (hs : P.sizeIs T = some n) (hv : v.cells = vs.toArray) (hn : vs.length = n) (hfit : off + n ≤ cs.length) (h1 : ∀ u ∈ vs, u.oneCell' = true) (hc : cs.take off ++ vs ++ cs.drop (off + vs.length) = cs') {hp' : List Item} (hh : hp.set i (.blk b cs' T') = hp')
    (k : WL P ops Q w0 N l env hp') : WL P ops Q w0 N (o :: l) env hp := by
  subst hc hh
  intro a w h
  refine wpList_plain hg fun K hK => ?_
  have hb := h.heap.get hi
  have hr := run_storeCells_at P b off T' vs 0 cs.toArray w hb (by simp; omega) h1
  unfold Oper.wp execOp
  simp only [ho, ev_of h.env hx, ev_of h.env hy, Instr.storeAt, Instr.sureAddr, storeVar, Sem.run_bind, Sem.run_pure, Result.andThen_ok, hv, List.size_toArray, run_sizeOf hs, hn, ne_eq, not_true, if_false, hr]
  refine hK _ _ (k _ _ ?_)
  rw [hd]
  refine ⟨h.size, h.defers, h.env, ?_⟩
  have := h.heap.setRow hi (cs' := cs.take off ++ vs ++ cs.drop (off + vs.length))
  simpa [hn] using this
theorem own_block_lt {w : World} {base e size n : Nat} {v : Value} {xs : List Value} (h : w.ownsRow base e size v n xs) (k : Nat) (hk : v.ownBlock = some k) : k < w.heap.size := by
  rcases h.2 with ⟨rfl, _⟩ | ⟨g, cap, cur, rfl, hg, hh, r⟩
  · cases hk
  · cases hk
    exact (Array.getElem?_eq_some_iff.1 hh).1
theorem wl_append {s x : Operand} {T E sz by_ d i m c n : Nat} {v : Value} {xs news : List Value} {ad : Addr} (ho : o.op = .call { callee := .builtin .append, args := #[s, x], argTypes := #[T, T] }) (hg : o.guard = none) (hd : o.dst = some d) (hN : d < N)
    (hT : P.underlying T = some (.slice E)) (hE : (P.info? E).map (fun i => (i.size, i.bytes, (i.zero.map (fun z => z.cells.size)).getD 0)) = some (sz, by_, sz)) (hsz : 0 < sz)
    (hs : evE s env = some v) (hx : evE x env = some (.slice (some ad) m c)) (hi : hp[i]? = some (.own 0 E sz v n xs)) (hnews : Reads w0 hp ad news) (hl : news.length = m * sz) (h1 : ∀ u ∈ news, u.oneCell' = true)
    (hmax : n + m ≤ maxLen) (hby : (n + m) * by_ ≤ 140737488355328)
    (k : ∀ v', (v' = .slice none 0 0 ↔ v = .slice none 0 0 ∧ m = 0) → WL P ops Q w0 N l ((d, v') :: env) (hp.set i (.own 0 E sz v' (n + m) (xs ++ news)))) : WL P ops Q w0 N (o :: l) env hp := by
  intro a w h
  cases hI : P.info? E with
  | none => rw [hI] at hE; cases hE
  | some i0 =>
    rw [hI] at hE
    simp only [Option.map_some, Option.some.injEq, Prod.mk.injEq] at hE
    obtain ⟨e1, e2, e3⟩ := hE
    cases hz : i0.zero with
    | none => rw [hz] at e3; simp at e3; omega
    | some z =>
      rw [hz] at e3
      simp only [Option.map_some, Option.getD_some] at e3
      have hown : w.ownsRow 0 E sz v n xs := h.heap.get hi
      obtain ⟨v', w', hr, hown', hgr, hnil, hpl⟩ := run_append_own_at (P := P) w 0 T o.type E i0 z sz by_ hT hI hz e1 e2 e3 hsz v n xs hown ad m c news hl (hnews w h.heap) h1 hmax hby (Nat.zero_le _)
      refine wpList_plain hg fun K hK => ?_
      unfold Oper.wp execOp
      simp only [ho, resolve, invoke, builtin, Sem.run_bind, Sem.run_pure, Result.andThen_ok, List.map_toArray, List.map_cons, List.map_nil, ev_of h.env hs, ev_of h.env hx, hr]
      refine hK _ _ ?_
      rw [hd]
      refine k v' hnil _ _ (h.put d v' hN ?_)
      refine h.heap.updAt hi hgr.os hgr.tape hgr.output hgr.size (fun k hk hnf => hgr.block k hk (fun e => hnf e.symm)) hown' (fun k hk => ?_)
      have hlt := own_block_lt hown' k hk
      refine ⟨?_, hlt⟩
      have hk' : v'.ownBlock = some k := hk
      rcases hpl with hpl | hpl
      · exact .inl (show v.ownBlock = some k from hpl ▸ hk')
      · rw [hk'] at hpl
        cases hpl
        exact .inr (Nat.le_refl _)
theorem call_func {a : Act} {f : Nat} {args : Array Operand} {ts : Array TypeId} (hop : o.op = .call { callee := .value (.func f), args := args, argTypes := ts }) : execOp a.eval o = callFunc f (args.map a.eval) := by
  have ef : a.eval (.func f) = .func (.func f) #[] #[] := rfl
  unfold execOp
  simp [hop, resolve, Deferred.ofValue, invoke, ef]
theorem ent_of {f : FuncId} {fn : Func} {c : Code} (hf : P.funcs[f]? = some fn) (hname : (fn.name == "runtime.NumGoroutine") = false) (hb : fn.body = some c) (args : Array Value) (w : World) :
    (callFunc f args).run P w = .ok (.enter f args) w := by
  have h1 : fn.name ≠ "runtime.NumGoroutine" := by simpa using hname
  simp [callFunc, hf, h1, hb]
def Ent (P : Program) (f : Nat) : Prop := ∀ (args : Array Value) (w : World), (callFunc f args).run P w = .ok (.enter f args) w
theorem wl_call {ι : Type} {f d : Nat} {args : Array Operand} {ts : Array TypeId} {vs : List Value} (rv : ι → Value) (rh : ι → List Item) (C : ι → Prop) (ho : o.op = .call { callee := .value (.func f), args := args, argTypes := ts }) (hg : o.guard = none) (hd : o.dst = some d) (hN : d < N)
    (he : Ent P f) (ha : evL args.toList env = some vs) (hc : ∀ w, HeapOK w0 hp w → Calls P f vs.toArray w (fun e w' => ∃ i, C i ∧ e = .returned (rv i) ∧ HeapOK w0 (rh i) w'))
    (k : ∀ i, C i → WL P ops Q w0 N l ((d, rv i) :: env) (rh i)) : WL P ops Q w0 N (o :: l) env hp := by
  intro a w h
  refine wpList_plain hg fun K hK => ?_
  unfold Oper.wp
  rw [call_func ho, evA_of h.env ha, he]
  rw [Oper.upon_enter]
  refine (hc w h.heap).mono ?_
  rintro e w' ⟨i, hC, rfl, hh⟩
  refine hK _ _ ?_
  rw [hd]
  exact k i hC _ _ (h.put d _ hN hh)
theorem q_call {f : Nat} {args : Array Operand} {ts : Array TypeId} {vs : List Value} {v : Value} (ho : o.op = .call { callee := .value (.func f), args := args, argTypes := ts })
    (he : Ent P f) (ha : evL args.toList env = some vs) (hc : ∀ w, HeapOK w0 hp w → Calls P f vs.toArray w (fun e w' => e = .returned v ∧ Below w.heap.size w w')) : OpQ P o env w0 hp v := by
  intro a w hev hh
  rw [call_func ho, evA_of hev ha, he]
  exact hc w hh
theorem enter {f : Nat} {fn : Func} {c : Code} {vs : List Value} {w : World} {R : Ending → World → Prop} (hf : P.funcs[f]? = some fn) (hb : fn.body = some c) (n : Nat) (hn : n = fn.ntmps) (hl : vs.length ≤ n) (henv : (vs.zipIdx.map fun x => (x.2, x.1)) = env) (hh : HeapOK w0 hp w)
    (h : WC P c (bodyPost P fn R) w0 ⟨n, []⟩ env hp) : Calls P f vs.toArray w R := by
  subst henv
  refine calls_of_wp hf hb (h _ _ ⟨?_, rfl, ?_, hh⟩)
  · simp; omega
  · intro t v ht
    have hm := look_mem ht
    rw [List.mem_map] at hm
    obtain ⟨⟨u, i⟩, hm, e⟩ := hm
    simp only [Prod.mk.injEq] at e
    obtain ⟨rfl, rfl⟩ := e
    have := List.mem_zipIdx_iff_getElem?.1 hm
    simp only at this
    obtain ⟨h1, h2⟩ := List.getElem?_eq_some_iff.1 this
    simp [Array.getD_eq_getD_getElem?, Array.getElem?_append, h1, h2]
theorem addr_add (b o n : Nat) : (⟨b, o, none⟩ : Addr).add n = ⟨b, o + n, none⟩ := by unfold Addr.add; split <;> simp_all
theorem add_add (a : Addr) (i j : Nat) : (a.add i).add j = a.add (i + j) := by
  unfold Addr.add
  by_cases hi : i = 0
  · subst hi; simp
  · by_cases hj : j = 0
    · subst hj; simp
    · rw [if_neg hi, if_neg hj, if_neg (by omega)]
      simp [Nat.add_assoc]
theorem q_fa {T : TypeId} {x : Operand} {f off b o0 o1 : Nat} (ho : o.op = .fieldAddr T x f) (hx : evE x env = some (.pointer (some ⟨b, o0, none⟩))) (hf : P.fieldOff T f = some off) (h1 : o0 + off = o1) : OpQ P o env w0 hp (.pointer (some ⟨b, o1, none⟩)) := by
  have := q_fieldAddr (P := P) (w0 := w0) (hp := hp) ho hx hf
  rwa [addr_add, h1] at this
theorem q_fax {T : TypeId} {x : Operand} {f off k k1 : Nat} {ad : Addr} (ho : o.op = .fieldAddr T x f) (hx : evE x env = some (.pointer (some (ad.add k)))) (hf : P.fieldOff T f = some off) (h1 : k + off = k1) : OpQ P o env w0 hp (.pointer (some (ad.add k1))) := by
  have := q_fieldAddr (P := P) (w0 := w0) (hp := hp) ho hx hf
  rwa [add_add, h1] at this
theorem q_indexO {T E : TypeId} {x y : Operand} {A : Option Addr} {ad : Addr} {n c sz : Nat} {k : IntKind} {i : Int} (ho : o.op = .indexAddr T x y) (hx : evE x env = some (.slice A n c)) (hA : A = some ad) (hy : evE y env = some (.int k i)) (hT : P.underlying T = some (.slice E)) (hs : P.sizeIs E = some sz) (h0 : 0 ≤ i) (h1 : i < n) : OpQ P o env w0 hp (.pointer (some (ad.add (i.toNat * sz)))) := by
  subst hA
  exact q_index ho hx hy hT hs h0 h1
theorem reads1 {i b off : Nat} {cs : List Value} {T : TypeId} {v : Value} (hi : hp[i]? = some (.blk b cs T)) (hc : cs[off]? = some v) : Reads w0 hp ⟨b, off, none⟩ [v] := by
  intro w h j u hj
  cases j with
  | zero =>
    cases hj
    have := h.get hi
    rw [addr_add, cell_of_row w b (off + 0) cs.toArray T (0, 0) this]
    simpa using hc
  | succ j => simp at hj
theorem readsAll {i b : Nat} {cs : List Value} {T : TypeId} (hi : hp[i]? = some (.blk b cs T)) : Reads w0 hp ⟨b, 0, none⟩ cs := by
  intro w h j u hj
  have := h.get hi
  rw [addr_add, Nat.zero_add, cell_of_row w b j cs.toArray T (0, 0) this]
  simpa using hj
def old (w : World) : Item := .ro (fun k => k < w.heap.size) w
theorem HeapOK.start (w : World) : HeapOK w [old w] w := ⟨rfl, rfl, rfl, Nat.le_refl _, fun it hi => by
  obtain rfl := List.mem_singleton.1 hi
  exact fun _ _ => rfl, fun it hi k hk => by
  obtain rfl := List.mem_singleton.1 hi
  exact hk, List.pairwise_singleton _ _⟩
theorem HeapOK.toBelow {w : World} (h : HeapOK w0 hp w) (hm : old w0 ∈ hp) : Below w0.heap.size w0 w := ⟨h.os, h.tape, h.output, h.size, h.ok _ hm⟩
theorem reads_old {ad : Addr} {cs : List Value} (hm : old w0 ∈ hp) (h : ∀ j v, cs[j]? = some v → w0.cell? (ad.add j) = some v) : Reads w0 hp ad cs := fun w hh j v hj => by
  have hc := h j v hj
  have := (hh.toBelow hm).cell (p := ad.add j) (block_lt_of_cell hc)
  rw [this]
  exact hc
theorem wl_split {t : Nat} {b : Bool} (hb : look t env = some (.bool b)) (ht : b = true → WL P ops Q w0 N l ((t, .bool true) :: env) hp) (hf : b = false → WL P ops Q w0 N l ((t, .bool false) :: env) hp) : WL P ops Q w0 N l env hp := by
  cases b
  · exact wl_eq hb rfl (hf rfl)
  · exact wl_eq hb rfl (ht rfl)
theorem wc_true {c : Operand} {x y : Code} (hc : evE c env = some (.bool true)) (h : WC P x Q w0 N env hp) : WC P (.cond c x y) Q w0 N env hp := wc_cond hc (fun _ => h) (fun e => by cases e)
theorem wc_false {c : Operand} {x y : Code} (hc : evE c env = some (.bool false)) (h : WC P y Q w0 N env hp) : WC P (.cond c x y) Q w0 N env hp := wc_cond hc (fun e => by cases e) (fun _ => h)
theorem fq_cell {fn : Func} {R : Ending → World → Prop} {t : Nat} {T : TypeId} {b i : Nat} {cs : List Value} {T' : TypeId} {n : Nat} {e : Exit} (he : e = .ret ∨ e = .normal) (hr : fn.results = #[.cell t T]) (hv : look t env = some (.pointer (some ⟨b, 0, none⟩))) (hi : hp[i]? = some (.blk b cs T')) (hT : P.manyB T = some true) (hs : P.sizeIs T = some n) (hn : cs.length = n)
    (h : ∀ w, HeapOK w0 hp w → R (.returned (.agg cs.toArray)) w) (hd0 : N.ds = [] := by rfl) : FQ (bodyPost P fn R) e w0 N env hp := fun a w hh => by
  have hrun : (results fn a.tmps).run P w = .ok (.agg cs.toArray) w := by
    have h1 := run_loadCells_list (P := P) w ⟨b, 0, none⟩ cs (readsAll hi w hh.heap)
    rw [hn] at h1
    have h2 := hh.env t _ hv
    have h3 : a.tmps[t]?.getD undef = .pointer (some ⟨b, 0, none⟩) := by rw [← Array.getD_eq_getD_getElem?]; exact h2
    simp [results, hr, h3, asAddr, loadVar, run_isAgg hT, run_sizeOf hs, h1]
  rcases he with rfl | rfl
  · exact bodyPost_ret hrun (hh.defers.trans hd0) (h w hh.heap)
  · exact bodyPost_end hrun (hh.defers.trans hd0) (h w hh.heap)
theorem fq_cell_tmp {fn : Func} {R : Ending → World → Prop} {t u : Nat} {T : TypeId} {b i : Nat} {cs : List Value} {x : Value} {T' : TypeId} {n : Nat} {e : Exit} (he : e = .ret ∨ e = .normal) (hr : fn.results = #[.cell t T, .tmp u]) (hv : look t env = some (.pointer (some ⟨b, 0, none⟩))) (hx : look u env = some x) (hi : hp[i]? = some (.blk b cs T')) (hT : P.manyB T = some true) (hs : P.sizeIs T = some n) (hn : cs.length = n)
    (h : ∀ w, HeapOK w0 hp w → R (.returned (.tuple #[.agg cs.toArray, x])) w) (hd0 : N.ds = [] := by rfl) : FQ (bodyPost P fn R) e w0 N env hp := fun a w hh => by
  have hrun : (results fn a.tmps).run P w = .ok (.tuple #[.agg cs.toArray, x]) w := by
    have h1 := run_loadCells_list (P := P) w ⟨b, 0, none⟩ cs (readsAll hi w hh.heap)
    rw [hn] at h1
    have h2 := hh.env t _ hv
    have h4 := hh.env u _ hx
    have h3 : a.tmps[t]?.getD undef = .pointer (some ⟨b, 0, none⟩) := by rw [← Array.getD_eq_getD_getElem?]; exact h2
    have h5 : a.tmps[u]?.getD undef = x := by rw [← Array.getD_eq_getD_getElem?]; exact h4
    simp [results, hr, h3, h5, asAddr, loadVar, run_isAgg hT, run_sizeOf hs, h1]
  rcases he with rfl | rfl
  · exact bodyPost_ret hrun (hh.defers.trans hd0) (h w hh.heap)
  · exact bodyPost_end hrun (hh.defers.trans hd0) (h w hh.heap)
theorem q_eqOf {op : BinOp} {t u : TypeId} {x y : Operand} {p q : Value} {c : Bool} (ho : o.op = .binOp op t x y u) (hop : op = .eql ∨ op = .neq) (hx : evE x env = some p) (hy : evE y env = some q)
    (hb : ∀ op : BinOp, binOp .eql t p q = (do pure (.bool (← Op.equal t p q))) ∧ binOp .neq t p q = (do pure (.bool (!(← Op.equal t p q)))) ∧ eqGuard op t x y p q = pure ())
    (hr : ∀ w : World, (Op.equal t p q).run P w = .ok c w) : OpQ P o env w0 hp (.bool (bif op matches .eql then c else !c)) :=
  q_eq ho hop hx hy fun w => ⟨by rw [(hb op).2.2]; rfl, by
    rcases hop with rfl | rfl
    · rw [(hb .eql).1, Sem.run_bind, hr w]; rfl
    · rw [(hb .eql).2.1, Sem.run_bind, hr w]; rfl⟩
theorem q_eqlP {t u e : TypeId} {x y : Operand} {p : Option Addr} (ho : o.op = .binOp .eql t x y u) (hx : evE x env = some (.pointer p)) (hy : evE y env = some (.pointer none)) (ht : P.underlying t = some (.pointer e)) : OpQ P o env w0 hp (.bool p.isNone) :=
  q_eqOf ho (.inl rfl) hx hy (fun op => ⟨rfl, rfl, by cases op <;> rfl⟩) (fun w => run_equal_pointer_nil w t p (by rw [ht]; unfold Program.pointee; rw [ht]))
def spl (cs : List Value) (off : Nat) (vs : List Value) : List Value := cs.take off ++ vs ++ cs.drop (off + vs.length)
theorem fold_spl : ∀ (vs : List Value) (n off : Nat) (cs : Array Value), off + n + vs.length ≤ cs.size → (vs.zipIdx n).foldl (fun cs (x : Value × Nat) => cs.setIfInBounds (off + x.2) x.1) cs = (spl cs.toList (off + n) vs).toArray
  | [], n, off, cs, _ => by simp [spl]
  | v :: r, n, off, cs, h => by
    simp only [List.length_cons] at h
    rw [List.zipIdx_cons, List.foldl_cons, fold_spl r (n + 1) off _ (by simp; omega)]
    have := list_seg_step cs.toList (off + n) v r (by simp; omega)
    congr 1
    simp only [spl, Array.toList_setIfInBounds, List.length_cons]
    rw [show off + (n + 1) = off + n + 1 by omega]
    exact this
def fillL (pl : List (Nat × Nat)) : List Value → List (Nat × List Value) → Option (List Value)
  | cs, [] => some cs
  | cs, (i, v) :: r => match pl[i]? with
    | some (off, sz) => if v.length = sz ∧ off + v.length ≤ cs.length then fillL pl (spl cs off v) r else none
    | none => none
theorem fill_of {place : Nat → Option (Nat × Nat)} {pl : List (Nat × Nat)} (hp : ∀ (i : Nat) (q : Nat × Nat), pl[i]? = some q → place i = some q) : ∀ (vs : List (Nat × Value)) (cs : List Value) (r : List Value), fillL pl cs (vs.map fun x => (x.1, x.2.cells.toList)) = some r → Instr.fill place cs.toArray vs = some r.toArray
  | [], cs, r, h => by
    simp only [List.map_nil, fillL, Option.some.injEq] at h
    subst h
    rfl
  | (i, v) :: vs, cs, r, h => by
    simp only [List.map_cons, fillL] at h
    unfold Instr.fill
    split at h
    · rename_i off sz he
      rw [hp i _ he]
      split at h
      · rename_i hc
        obtain ⟨h1, h2⟩ := hc
        simp only [Array.length_toList] at h1 h2
        simp only
        rw [if_neg (by simp; omega)]
        have := fold_spl v.cells.toList 0 off cs.toArray (by simpa using h2)
        have e : v.cells.zipIdx.foldl (fun cs (x : Value × Nat) => cs.setIfInBounds (off + x.2) x.1) cs.toArray = (spl cs (off + 0) v.cells.toList).toArray := by
          rw [← Array.foldl_toList, Array.toList_zipIdx]
          simpa using this
        rw [show (v.cells.zipIdx.foldl (fun cs (c, j) => cs.setIfInBounds (off + j) c) cs.toArray) = (spl cs off v.cells.toList).toArray from e]
        exact fill_of hp vs _ r h
      · cases h
    · cases h
def _root_.Go.Program.placesOf (P : Program) (T : TypeId) : Option (List (Nat × Nat)) :=
  match P.underlying T with
  | some (.struct fs) => fs.toList.mapM (fun f => (P.info? f.type).map fun i => (f.offset, i.size))
  | some (.array n e) => (P.info? e).map fun i => (List.range n).map fun j => (j * i.size, i.size)
  | _ => none
theorem built_of {T : TypeId} {z r : List Value} {pl : List (Nat × Nat)} {vs : List (Nat × Value)} (hz : ((P.info? T).bind (·.zero)).map (·.cells) = some z.toArray) (hpl : P.placesOf T = some pl) (hf : fillL pl z (vs.map fun x => (x.1, x.2.cells.toList)) = some r) : P.built T vs = some r.toArray := by
  cases hi : P.info? T with
  | none => rw [hi] at hz; cases hz
  | some i =>
    cases hz2 : i.zero with
    | none => rw [hi] at hz; simp [hz2] at hz
    | some z0 =>
      rw [hi] at hz
      simp only [hz2, Option.bind_some, Option.map_some, Option.some.injEq] at hz
      unfold Program.built
      unfold Program.placesOf at hpl
      split at hpl
      · rename_i fs hu
        simp only [hi, hu, hz2, hpl, hz]
        exact fill_of (fun i q hq => by simpa using hq) vs z r hf
      · rename_i n e hu
        cases he : P.info? e with
        | none => rw [he] at hpl; cases hpl
        | some ie =>
          rw [he] at hpl
          simp only [Option.map_some, Option.some.injEq] at hpl
          subst hpl
          simp only [hi, hu, hz2, he, hz]
          refine fill_of (fun i q hq => ?_) vs z r hf
          rw [List.getElem?_map] at hq
          cases hr : (List.range n)[i]? with
          | none => rw [hr] at hq; cases hq
          | some j =>
            rw [hr] at hq
            have := List.getElem?_eq_some_iff.1 hr
            obtain ⟨h1, h2⟩ := this
            simp at h2
            subst h2
            simpa using hq
      · cases hpl
theorem run_bound {k : IntKind} {i : Int} {y : Nat} {code : BoundsCode} (h0 : 0 ≤ i) (h1 : i ≤ y) (w : World) : (Instr.sliceBound (.int k i) y code).run P w = .ok i.toNat w := by
  simp [Instr.sliceBound, asIntOf, h0, h1]
theorem q_slice_lo {T E : TypeId} {x lo : Operand} {A : Option Addr} {n c sz : Nat} {k : IntKind} {i : Int} (ho : o.op = .slice T x (some lo) none none) (hx : evE x env = some (.slice A n c)) (hl : evE lo env = some (.int k i)) (hT : P.underlying T = some (.slice E)) (hs : P.sizeIs E = some sz) (h0 : 0 ≤ i) (h1 : i ≤ n) : OpQ P o env w0 hp (.slice (if c = i.toNat then A else A.map (·.add (i.toNat * sz))) (n - i.toNat) (c - i.toNat)) := q_run fun a w he hh => by
  have := run_bound (P := P) (k := k) (code := .sliceB) h0 h1 w
  unfold execOp
  simp only [ho, ev_of he hx, ev_of he hl, Instr.sliceAt, Sem.run_bind, run_underlying hT, Result.andThen_ok, Instr.slice, Sem.run_pure, Instr.sliceBounds, Option.map_some, Option.map_none, Option.isSome_none, Bool.false_eq_true, if_false, this, run_sizeOf hs]
theorem sum_ge {l : List Nat} {x : Nat} (h : x ∈ l) : x ≤ l.sum := by
  induction l with
  | nil => cases h
  | cons y r ih =>
    rcases List.mem_cons.1 h with rfl | h
    · simp
    · have := ih h; simp; omega
theorem OpQ.any {env' : Env} {v : Value} (h : OpQ P o env w0 hp v) (hsel : ∀ cs b, o.op ≠ .select cs b) (ha : ∀ t, .tmp t ∈ o.op.operands → look t env' = look t env) : OpQ P o env' w0 hp v := by
  classical
  intro a w he hh
  let M := (env.map (·.1)).sum + a.tmps.size + 1
  have hM : M = (env.map (·.1)).sum + a.tmps.size + 1 := rfl
  let a2 : Act := { tmps := Array.ofFn (n := M) (fun t => if Operand.tmp t.1 ∈ o.op.operands then a.tmps.getD t.1 undef else (look t.1 env).getD undef), defers := [] }
  have hg : ∀ t, a2.tmps.getD t undef = if t < M then (if Operand.tmp t ∈ o.op.operands then a.tmps.getD t undef else (look t env).getD undef) else undef := by
    intro t
    by_cases ht : t < M
    · simp [a2, Array.getD_eq_getD_getElem?, ht]
    · simp [a2, Array.getD_eq_getD_getElem?, ht]
  have h2 : EnvOK env a2 := by
    intro t x hx
    have hm := look_mem hx
    have : t ≤ (env.map (·.1)).sum := sum_ge (List.mem_map.2 ⟨(t, x), hm, rfl⟩)
    rw [hg t, if_pos (by omega)]
    split
    · rename_i ho
      exact he t x (by rw [ha t ho]; exact hx)
    · rw [hx]; rfl
  have hev : execOp a2.eval o = execOp a.eval o := execOp_congr o hsel (fun x hx => by
    cases x with
    | tmp t =>
      show a2.tmps.getD t undef = a.tmps.getD t undef
      rw [hg t]
      by_cases ht : t < M
      · rw [if_pos ht, if_pos hx]
      · rw [if_neg ht]
        have : ¬ t < a.tmps.size := fun h => ht (Nat.lt_succ_of_le (Nat.le_trans (Nat.le_of_lt h) (Nat.le_add_left _ _)))
        simp [Array.getD_eq_getD_getElem?, this]
    | _ => rfl)
  have := h a2 w h2 hh
  rw [hev] at this
  exact this
inductive Chain (P : Program) (w0 : World) (hp : List Item) (ops : Array Oper) : List Oper → Env → Env → Prop
  | nil (env : Env) : Chain P w0 hp ops [] env []
  | yield {o : Oper} {l : List Oper} {env out : Env} {d : Nat} {v : Value} (hq : OpQ P o env w0 hp v) (hg : o.guard = none) (hd : o.dst = some d) (k : Chain P w0 hp ops l ((d, v) :: env) out) : Chain P w0 hp ops (o :: l) env ((d, v) :: out)
  | want {o : Oper} {l : List Oper} {env out : Env} {d j tj : Nat} {b : Bool} {v : Value} (hq : OpQ P o env w0 hp v) (hg : o.guard = some (j, b)) (hj : (ops[j]?).bind (·.dst) = some tj) (hb : look tj env = some (.bool b)) (hd : o.dst = some d) (k : Chain P w0 hp ops l ((d, v) :: env) out) : Chain P w0 hp ops (o :: l) env ((d, v) :: out)
  | skip {o : Oper} {l : List Oper} {env out : Env} {d j tj : Nat} {b : Bool} (hg : o.guard = some (j, !b)) (hj : (ops[j]?).bind (·.dst) = some tj) (hb : look tj env = some (.bool b)) (hd : o.dst = some d) (k : Chain P w0 hp ops l ((d, undef) :: env) out) : Chain P w0 hp ops (o :: l) env ((d, undef) :: out)
  | skipU {o : Oper} {l : List Oper} {env out : Env} {d j tj : Nat} {b : Bool} (hg : o.guard = some (j, b)) (hj : (ops[j]?).bind (·.dst) = some tj) (hb : look tj env = some undef) (hd : o.dst = some d) (k : Chain P w0 hp ops l ((d, undef) :: env) out) : Chain P w0 hp ops (o :: l) env ((d, undef) :: out)
def Part (P : Program) (w0 : World) (hp : List Item) (ops : Array Oper) (o : Oper) (env : Env) (d : Nat) (v : Value) : Prop :=
  o.dst = some d ∧ ((o.guard = none ∧ OpQ P o env w0 hp v) ∨ (∃ j tj b, o.guard = some (j, b) ∧ (ops[j]?).bind (·.dst) = some tj ∧ look tj env = some (.bool b) ∧ OpQ P o env w0 hp v) ∨ (∃ j tj b x, o.guard = some (j, b) ∧ (ops[j]?).bind (·.dst) = some tj ∧ (x = .bool (!b) ∨ x = undef) ∧ look tj env = some x ∧ v = undef))
theorem Chain.part {l : List Oper} {env out : Env} (h : Chain P w0 hp ops l env out) : out.length = l.length ∧ ∀ i o, l[i]? = some o → ∃ d v, out[i]? = some (d, v) ∧ Part P w0 hp ops o ((out.take i).reverse ++ env) d v := by
  induction h with
  | nil env => exact ⟨rfl, fun i o h => by simp at h⟩
  | yield hq hg hd k ih =>
    refine ⟨by simp [ih.1], fun i o h => ?_⟩
    cases i with
    | zero => cases h; exact ⟨_, _, rfl, hd, .inl ⟨hg, hq⟩⟩
    | succ i =>
      obtain ⟨d, v, h1, h2⟩ := ih.2 i o (by simpa using h)
      exact ⟨d, v, by simpa using h1, by simpa using h2⟩
  | want hq hg hj hb hd k ih =>
    refine ⟨by simp [ih.1], fun i o h => ?_⟩
    cases i with
    | zero => cases h; exact ⟨_, _, rfl, hd, .inr (.inl ⟨_, _, _, hg, hj, hb, hq⟩)⟩
    | succ i =>
      obtain ⟨d, v, h1, h2⟩ := ih.2 i o (by simpa using h)
      exact ⟨d, v, by simpa using h1, by simpa using h2⟩
  | skip hg hj hb hd k ih =>
    refine ⟨by simp [ih.1], fun i o h => ?_⟩
    cases i with
    | zero => cases h; exact ⟨_, _, rfl, hd, .inr (.inr ⟨_, _, _, _, hg, hj, .inl (by rw [Bool.not_not]), hb, rfl⟩)⟩
    | succ i =>
      obtain ⟨d, v, h1, h2⟩ := ih.2 i o (by simpa using h)
      exact ⟨d, v, by simpa using h1, by simpa using h2⟩
  | skipU hg hj hb hd k ih =>
    refine ⟨by simp [ih.1], fun i o h => ?_⟩
    cases i with
    | zero => cases h; exact ⟨_, _, rfl, hd, .inr (.inr ⟨_, _, _, _, hg, hj, .inr rfl, hb, rfl⟩)⟩
    | succ i =>
      obtain ⟨d, v, h1, h2⟩ := ih.2 i o (by simpa using h)
      exact ⟨d, v, by simpa using h1, by simpa using h2⟩
theorem wanted_of {a : Act} {j tj : Nat} {b c : Bool} (hg : o.guard = some (j, c)) (hj : (ops[j]?).bind (·.dst) = some tj) (h1 : a.tmps.getD tj undef = .bool b) : Region.wanted o (yielded ops a.tmps) = (b == c) := by
  have h2 : a.tmps[tj]?.getD undef = .bool b := by rw [← Array.getD_eq_getD_getElem?]; exact h1
  simp only [Region.wanted, hg, yielded, hj]
  cases hx : a.tmps[tj]? with
  | none => rw [hx] at h2; simp [undef] at h2
  | some x => rw [hx] at h2; simp at h2; subst h2; cases b <;> cases c <;> simp [hx]
theorem unwanted_of {a : Act} {j tj : Nat} {b : Bool} {x : Value} (hg : o.guard = some (j, b)) (hj : (ops[j]?).bind (·.dst) = some tj) (hx : x = .bool (!b) ∨ x = undef) (h1 : a.tmps.getD tj undef = x) : Region.wanted o (yielded ops a.tmps) = false := by
  rcases hx with rfl | rfl
  · rw [wanted_of hg hj h1]; cases b <;> rfl
  · have h2 : a.tmps[tj]?.getD undef = undef := by rw [← Array.getD_eq_getD_getElem?]; exact h1
    simp only [Region.wanted, hg, yielded, hj]
    cases hx : a.tmps[tj]? with
    | none => simp [hx]
    | some x => rw [hx] at h2; simp at h2; subst h2; simp [hx, undef]
theorem Part.wpOp {env' : Env} {d i : Nat} {v : Value} (h : Part P w0 hp ops o env d v) (hi : ops[i]? = some o) (hsel : ∀ cs b, o.op ≠ .select cs b) (ha : ∀ t ∈ o.looksAt ops, look t env' = look t env) {a : Act} {w : World} (he : EnvOK env' a) (hh : HeapOK w0 hp w)
    {K : Act → World → Prop} (k : ∀ w', Below w.heap.size w w' → K (a.put (some d) v) w') : Go.wpOp P ops Q i K a w := by
  obtain ⟨hd, h⟩ := h
  have hop : ∀ t, .tmp t ∈ o.op.operands → look t env' = look t env := fun t ht => ha t (List.mem_append_left _ (List.mem_filterMap.2 ⟨.tmp t, by simpa using ht, rfl⟩))
  have hgu : ∀ j tj b, o.guard = some (j, b) → (ops[j]?).bind (·.dst) = some tj → look tj env' = look tj env := fun j tj b hg hj => ha tj (List.mem_append_right _ (by rw [hg]; simp [hj]))
  unfold Go.wpOp
  simp only [hi]
  rcases h with ⟨hg, hq⟩ | ⟨j, tj, b, hg, hj, hb, hq⟩ | ⟨j, tj, b, x, hg, hj, hx, hb, rfl⟩
  · rw [if_pos (by simp [Region.wanted, hg])]
    exact .inl ((hq.any hsel hop).wp he hh (fun w' hb => by rw [hd]; exact k w' hb))
  · have hw := wanted_of (ops := ops) hg hj (he tj _ ((hgu j tj b hg hj).trans hb))
    rw [hw, if_pos (by simp)]
    exact .inl ((hq.any hsel hop).wp he hh (fun w' hb => by rw [hd]; exact k w' hb))
  · have hw := unwanted_of (ops := ops) hg hj hx (he tj _ ((hgu j tj b hg hj).trans hb))
    rw [hw, if_neg (by simp)]
    rw [hd]
    exact k w (Below.refl _ _)
def maskOf (acc : List Nat) (l : List Edge) : Nat := l.foldl (fun s e => bif Region.binds .any e then s ||| 2 ^ e.on ||| acc.getD e.on 0 else s) 0
def masksOf : List Oper → List Nat → List Nat
  | [], acc => acc
  | o :: l, acc => masksOf l (acc ++ [maskOf acc o.after.toList])
theorem maskOf_bit {acc : List Nat} {j : Nat} : ∀ (l : List Edge) (s : Nat), (l.foldl (fun s e => bif Region.binds .any e then s ||| 2 ^ e.on ||| acc.getD e.on 0 else s) s).testBit j = true → s.testBit j = true ∨ ∃ e ∈ l, Region.binds .any e = true ∧ (e.on = j ∨ (acc.getD e.on 0).testBit j = true)
  | [], s, h => .inl h
  | e :: l, s, h => by
    rw [List.foldl_cons] at h
    rcases maskOf_bit l _ h with h | ⟨e', he', hb, hr⟩
    · cases hb : Region.binds .any e with
      | false => rw [hb] at h; exact .inl h
      | true =>
        rw [hb] at h
        simp only [cond_true, Nat.testBit_or, Bool.or_eq_true, Nat.testBit_two_pow, decide_eq_true_eq] at h
        rcases h with (h | h) | h
        · exact .inl h
        · exact .inr ⟨e, List.mem_cons_self, hb, .inl h⟩
        · exact .inr ⟨e, List.mem_cons_self, hb, .inr h⟩
    · exact .inr ⟨e', List.mem_cons_of_mem _ he', hb, hr⟩
def Afters (ol : List Oper) (L : Nat → Prop) (i : Nat) : Prop := ∀ o, ol[i]? = some o → ∀ e ∈ o.after, Region.binds .any e = true → L e.on
theorem masks_good (ol : List Oper) : ∀ (l : List Oper) (acc : List Nat), l = ol.drop acc.length → (∀ i j, (acc.getD i 0).testBit j = true → ∀ L : Nat → Prop, (∀ i, L i → Afters ol L i) → Afters ol L i → L j) →
    ∀ i j, ((masksOf l acc).getD i 0).testBit j = true → ∀ L : Nat → Prop, (∀ i, L i → Afters ol L i) → Afters ol L i → L j
  | [], acc, _, hg => hg
  | o :: l, acc, hl, hg => by
    have ho : ol[acc.length]? = some o := by
      have : (ol.drop acc.length)[0]? = some o := by rw [← hl]; rfl
      simpa using this
    refine masks_good ol l (acc ++ [maskOf acc o.after.toList]) ?_ ?_
    · have : l = (ol.drop acc.length).drop 1 := by rw [← hl]; rfl
      rw [this, List.drop_drop]
      simp
    · intro i j h L hd ha
      by_cases hi : i < acc.length
      · rw [List.getD_eq_getElem?_getD, List.getElem?_append_left hi, ← List.getD_eq_getElem?_getD] at h
        exact hg i j h L hd ha
      · by_cases he : i = acc.length
        · subst he
          rw [List.getD_eq_getElem?_getD, List.getElem?_append_right (Nat.le_refl _)] at h
          simp only [Nat.sub_self, List.getElem?_cons_zero, Option.getD_some] at h
          rcases maskOf_bit _ _ h with h | ⟨e, hm, hb, h⟩
          · simp at h
          · have hL := ha o ho e (by simpa using hm) hb
            rcases h with rfl | h
            · exact hL
            · exact hg _ _ h L hd (hd _ hL)
        · rw [List.getD_eq_getElem?_getD, List.getElem?_eq_none (by simp; omega)] at h
          simp at h
def selB (o : Oper) : Bool := match o.op with | .select _ _ => false | _ => true
def okDraw (ol : List Oper) (m N : Nat) : Bool :=
  let ms := masksOf ol []
  ((List.range ol.length).all fun i => ((ol[i]?).map fun o => o.after.all fun e => !Region.binds .any e || decide (e.on < i)).getD true) &&
  ((List.range m).all fun i => match ol[i]? with
    | some o => selB o && (match o.dst with | some d => decide (d < N) | none => false) &&
      (List.range m).all fun j => match (ol[j]?).bind (·.dst) with
        | some t => (decide (i = j) || o.dst != some t) && (!(o.looksAt ol.toArray).contains t || (decide (j < i) && (ms.getD i 0).testBit j) || (decide (i < j) && (ms.getD j 0).testBit i))
        | none => false
    | none => false) &&
  ((List.range (ol.length - m)).all fun k => (List.range (m + k)).all fun j => (ms.getD (m + k) 0).testBit j)
end
theorem ready_mem {ops : Array Oper} {l : Array Bool} {i : Nat} (h : i ∈ Region.ready .any ops l) : i < ops.size ∧ l.getD i true = false ∧ ∀ o, ops[i]? = some o → ∀ e ∈ o.after, Region.binds .any e = true → l.getD e.on false = true := by
  unfold Region.ready at h
  rw [List.mem_filter, List.mem_range, Bool.and_eq_true] at h
  obtain ⟨h1, h2, h3⟩ := h
  refine ⟨h1, by simpa using h2, fun o ho e he hb => ?_⟩
  rw [ho] at h3
  simp only [Option.map_some, Option.getD_some] at h3
  have := (Array.all_eq_true'.1 h3) e he
  simpa [hb] using this
theorem getD_set_self (l : Array Bool) (i : Nat) (b : Bool) (hi : i < l.size) : (l.setIfInBounds i true).getD i b = true := by
  simp [Array.getD_eq_getD_getElem?, hi]
theorem getD_set_other (l : Array Bool) (i j : Nat) (b : Bool) (h : i ≠ j) : (l.setIfInBounds i true).getD j b = l.getD j b := by
  simp [Array.getD_eq_getD_getElem?, Array.getElem?_setIfInBounds_ne h]
def cntF (l : Array Bool) : Nat := l.toList.countP (fun b => !b)
theorem cntF_set (l : Array Bool) (i : Nat) (hi : i < l.size) (h : l.getD i true = false) : cntF (l.setIfInBounds i true) + 1 = cntF l := by
  unfold cntF
  have hl : i < l.toList.length := by simpa using hi
  have hv : l.toList[i] = false := by
    rw [Array.getD_eq_getD_getElem?, Array.getElem?_eq_getElem hi, Option.getD_some] at h
    simpa using h
  rw [Array.toList_setIfInBounds, List.countP_set hl, hv]
  have hp : 0 < l.toList.countP (fun b => !b) := List.countP_pos_iff.2 ⟨l.toList[i], List.getElem_mem hl, by rw [hv]; rfl⟩
  simp only [Bool.not_false, Bool.not_true, if_true, Bool.false_eq_true, if_false]
  omega
theorem cntF_pos (l : Array Bool) (i : Nat) (hi : i < l.size) (h : l.getD i true = false) : 0 < cntF l := by
  have := cntF_set l i hi h
  omega
theorem wpAny_inv {P : Program} {ops : Array Oper} {Q : Exit → Act → World → Prop} (I : Array Bool → Act → World → Prop)
    (hstep : ∀ l a w i, I l a w → l.size = ops.size → i < ops.size → l.getD i true = false → (∀ o, ops[i]? = some o → ∀ e ∈ o.after, Region.binds .any e = true → l.getD e.on false = true) → wpOp P ops Q i (I (l.setIfInBounds i true)) a w)
    (hdone : ∀ l a w, I l a w → (∀ i, i < ops.size → l.getD i false = true) → Q .normal a w)
    (hends : ∀ l : Array Bool, l.size = ops.size → Region.ready .any ops l = [] → ∀ i, i < ops.size → l.getD i false = true) :
    ∀ fuel l a w, l.size = ops.size → cntF l ≤ fuel → I l a w → wpAny P .any ops Q fuel l a w := by
  intro fuel
  induction fuel with
  | zero =>
    intro l a w hs hc hI
    have hr : Region.ready .any ops l = [] := by
      rw [List.eq_nil_iff_forall_not_mem]
      intro i hi
      obtain ⟨h1, h2, _⟩ := ready_mem hi
      have := cntF_pos l i (by omega) h2
      omega
    exact ⟨hr, hdone l a w hI (hends l hs hr)⟩
  | succ n ih =>
    intro l a w hs hc hI
    refine ⟨fun hr => hdone l a w hI (hends l hs hr), fun i hi => ?_⟩
    obtain ⟨h1, h2, h3⟩ := ready_mem hi
    refine wpOp_mono (fun a' w' h => ih _ _ _ (by simpa using hs) (by have := cntF_set l i (by omega) h2; omega) h) (hstep l a w i hI hs h1 h2 h3)
theorem ends_of {ops : Array Oper} (hb : (List.range ops.size).all (fun i => ((ops[i]?).map fun o => o.after.all fun e => !Region.binds .any e || decide (e.on < i)).getD true) = true) (l : Array Bool) (hs : l.size = ops.size) (hr : Region.ready .any ops l = []) : ∀ i, i < ops.size → l.getD i false = true := by
  intro i
  induction i using Nat.strongRecOn with
  | _ i ih =>
    intro hi
    cases hv : l.getD i false with
    | true => rfl
    | false =>
      exfalso
      have ho : ops[i]? = some ops[i] := Array.getElem?_eq_getElem hi
      have hmem : i ∈ Region.ready .any ops l := by
        unfold Region.ready
        rw [List.mem_filter, List.mem_range, Bool.and_eq_true]
        refine ⟨hi, ?_, ?_⟩
        · have : l.getD i true = l.getD i false := by simp [Array.getD_eq_getD_getElem?, hs, hi]
          rw [this, hv]; rfl
        · rw [ho]
          simp only [Option.map_some, Option.getD_some]
          rw [Array.all_eq_true']
          intro e he
          have h1 := List.all_eq_true.1 hb i (List.mem_range.2 hi)
          rw [ho] at h1
          simp only [Option.map_some, Option.getD_some] at h1
          have h2 := (Array.all_eq_true'.1 h1) e he
          cases hbe : Region.binds .any e with
          | false => rfl
          | true =>
            rw [hbe] at h2
            simp at h2
            simp [ih e.on h2 (by omega)]
      rw [hr] at hmem
      cases hmem
section
variable {P : Program} {ops : Array Oper} {Q : Exit → Act → World → Prop} {w0 : World} {N : Fr} {env : Env} {hp : List Item}
def come (out : Env) (listed : Array Bool) (env : Env) : Env := ((List.range out.length).filter (fun i => listed.getD i false)).filterMap (fun i => out[i]?) ++ env
theorem look_app {t : Nat} : ∀ {A B : Env}, (∀ p ∈ A, p.1 ≠ t) → look t (A ++ B) = look t B
  | [], B, _ => rfl
  | (u, x) :: r, B, h => by
    rw [List.cons_append, look_cons, if_neg (fun e => h (u, x) List.mem_cons_self e.symm)]
    exact look_app (fun p hp => h p (List.mem_cons_of_mem _ hp))
theorem look_in {t : Nat} {v : Value} : ∀ {A B : Env}, (t, v) ∈ A → (∀ x, (t, x) ∈ A → x = v) → look t (A ++ B) = some v
  | [], B, h, _ => by cases h
  | (u, x) :: r, B, h, hu => by
    rw [List.cons_append, look_cons]
    by_cases e : t = u
    · subst e
      rw [if_pos rfl, hu x List.mem_cons_self]
    · rw [if_neg e]
      refine look_in ?_ (fun x hx => hu x (List.mem_cons_of_mem _ hx))
      rcases List.mem_cons.1 h with h | h
      · cases h; exact absurd rfl e
      · exact h
theorem mem_come {out : Env} {listed : Array Bool} {p : Nat × Value} (h : p ∈ ((List.range out.length).filter (fun i => listed.getD i false)).filterMap (fun i => out[i]?)) : ∃ i, listed.getD i false = true ∧ out[i]? = some p := by
  obtain ⟨i, hi, hp⟩ := List.mem_filterMap.1 h
  exact ⟨i, by simpa using (List.mem_filter.1 hi).2, hp⟩
theorem come_mem {out : Env} {listed : Array Bool} {p : Nat × Value} {i : Nat} (h1 : listed.getD i false = true) (h2 : out[i]? = some p) : p ∈ ((List.range out.length).filter (fun i => listed.getD i false)).filterMap (fun i => out[i]?) := by
  refine List.mem_filterMap.2 ⟨i, List.mem_filter.2 ⟨List.mem_range.2 (List.getElem?_eq_some_iff.1 h2).1, by simpa using h1⟩, h2⟩
structure DrawOK (ol : List Oper) (m N : Nat) : Prop where
  on : (List.range ol.toArray.size).all (fun i => ((ol.toArray[i]?).map fun o => o.after.all fun e => !Region.binds .any e || decide (e.on < i)).getD true) = true
  sel : ∀ i o, i < m → ol[i]? = some o → ∀ cs b, o.op ≠ .select cs b
  dst : ∀ i o, i < m → ol[i]? = some o → ∃ d, o.dst = some d ∧ d < N
  uniq : ∀ i j o o', i < m → j < m → ol[i]? = some o → ol[j]? = some o' → o.dst = o'.dst → i = j
  reads : ∀ i j o o' t, i < m → j < m → ol[i]? = some o → ol[j]? = some o' → o'.dst = some t → t ∈ o.looksAt ol.toArray → (j < i ∧ ((masksOf ol []).getD i 0).testBit j = true) ∨ (i < j ∧ ((masksOf ol []).getD j 0).testBit i = true)
  late : ∀ i j, m ≤ i → i < ol.length → j < i → ((masksOf ol []).getD i 0).testBit j = true
  m_le : ∀ i, i < m → ∃ o, ol[i]? = some o
theorem okDraw_spec {ol : List Oper} {m N : Nat} (h : okDraw ol m N = true) : DrawOK ol m N := by
  simp only [okDraw, Bool.and_eq_true] at h
  obtain ⟨⟨h1, h2⟩, h3⟩ := h
  have key : ∀ i, i < m → ∃ o, ol[i]? = some o ∧ selB o = true ∧ (∃ d, o.dst = some d ∧ d < N) ∧ ∀ j, j < m → ∃ t, (ol[j]?).bind (·.dst) = some t ∧ (i = j ∨ o.dst ≠ some t) ∧ (t ∈ o.looksAt ol.toArray → (j < i ∧ ((masksOf ol []).getD i 0).testBit j = true) ∨ (i < j ∧ ((masksOf ol []).getD j 0).testBit i = true)) := by
    intro i hi
    have := List.all_eq_true.1 h2 i (List.mem_range.2 hi)
    split at this
    · rename_i o ho
      simp only [Bool.and_eq_true] at this
      obtain ⟨⟨hs, hd⟩, hj⟩ := this
      refine ⟨o, ho, hs, ?_, fun j hjm => ?_⟩
      · split at hd
        · rename_i d hd'
          exact ⟨d, hd', by simpa using hd⟩
        · cases hd
      · have := List.all_eq_true.1 hj j (List.mem_range.2 hjm)
        split at this
        · rename_i t ht
          simp only [Bool.and_eq_true, Bool.or_eq_true, decide_eq_true_eq, bne_iff_ne, Bool.not_eq_true'] at this
          refine ⟨t, ht, this.1, fun hl => ?_⟩
          have h4 := this.2
          rcases h4 with (h4 | h4) | h4
          · rw [List.contains_iff_mem.2 hl] at h4; cases h4
          · exact .inl h4
          · exact .inr h4
        · cases this
    · cases this
  refine ⟨by simpa using h1, ?_, ?_, ?_, ?_, ?_, ?_⟩
  · intro i o hi ho cs b e
    obtain ⟨o', ho', hs, _⟩ := key i hi
    rw [ho] at ho'; cases ho'
    simp [selB, e] at hs
  · intro i o hi ho
    obtain ⟨o', ho', _, hd, _⟩ := key i hi
    rw [ho] at ho'; cases ho'
    exact hd
  · intro i j o o' hi hj ho ho' hd
    obtain ⟨o2, ho2, _, _, hk⟩ := key i hi
    rw [ho] at ho2; cases ho2
    obtain ⟨t, ht, hne, _⟩ := hk j hj
    rw [ho'] at ht
    simp only [Option.bind_some] at ht
    rcases hne with h | h
    · exact h
    · exact absurd (hd.trans ht) h
  · intro i j o o' t hi hj ho ho' hd hl
    obtain ⟨o2, ho2, _, _, hk⟩ := key i hi
    rw [ho] at ho2; cases ho2
    obtain ⟨t', ht, _, hr⟩ := hk j hj
    rw [ho'] at ht
    simp only [Option.bind_some] at ht
    rw [hd] at ht; cases ht
    exact hr hl
  · intro i j hi hl hj
    have := List.all_eq_true.1 h3 (i - m) (List.mem_range.2 (by omega))
    have := List.all_eq_true.1 this j (List.mem_range.2 (by omega))
    rwa [show m + (i - m) = i by omega] at this
  · intro i hi
    obtain ⟨o, ho, _⟩ := key i hi
    exact ⟨o, ho⟩
theorem wc_draw {id : Nat} {ol : List Oper} {out : Env} (m : Nat) (hm : P.follows .mixedOrders = true) (hok : okDraw ol m N = true) (hc : Chain P w0 hp ol.toArray (ol.take m) env out) (k : WL P ol.toArray Q w0 N (ol.drop m) (out.reverse ++ env) hp) :
    WC P (.region id ol.toArray true) Q w0 N env hp := by
  intro a w hh
  have D := okDraw_spec hok
  obtain ⟨hlen, hpart⟩ := hc.part
  have hml : m ≤ ol.length := by
    rcases Nat.eq_zero_or_pos m with h | h
    · omega
    · obtain ⟨o, ho⟩ := D.m_le (m - 1) (by omega)
      have := (List.getElem?_eq_some_iff.1 ho).1
      omega
  have hlen' : out.length = m := by rw [hlen, List.length_take]; omega
  have hget : ∀ i o, i < m → ol[i]? = some o → ∃ d v, out[i]? = some (d, v) ∧ Part P w0 hp ol.toArray o ((out.take i).reverse ++ env) d v := fun i o hi ho => hpart i o (by rw [List.getElem?_take, if_pos hi]; exact ho)
  have hout : ∀ (i d : Nat) (v : Value), out[i]? = some (d, v) → ∃ o, i < m ∧ ol[i]? = some o ∧ o.dst = some d := by
    intro i d v h
    have hi : i < m := by have := (List.getElem?_eq_some_iff.1 h).1; omega
    obtain ⟨o, ho⟩ := D.m_le i hi
    obtain ⟨d', v', h1, h2⟩ := hget i o hi ho
    rw [h] at h1; cases h1
    exact ⟨o, hi, ho, h2.1⟩
  have huniq : ∀ (i j d : Nat) (v v' : Value), out[i]? = some (d, v) → out[j]? = some (d, v') → i = j := by
    intro i j d v v' h1 h2
    obtain ⟨o, hi, ho, hd⟩ := hout i d v h1
    obtain ⟨o', hj, ho', hd'⟩ := hout j d v' h2
    exact D.uniq i j o o' hi hj ho ho' (hd.trans hd'.symm)
  have hallH : ∀ (l : Array Bool) (a : Act) (w : World), (∀ j, j < m → l.getD j false = true) → Holds w0 N (come out l env) hp a w → Holds w0 N (out.reverse ++ env) hp a w := by
    intro l a w hall hh
    refine ⟨hh.size, hh.defers, ?_, hh.heap⟩
    intro t x hx
    refine hh.env t x ?_
    rw [← hx]
    by_cases hex : ∃ (j : Nat) (v' : Value), out[j]? = some (t, v')
    · obtain ⟨j, v', hj⟩ := hex
      obtain ⟨oj, hjm, hoj, hdj⟩ := hout j t v' hj
      have e1 : look t (come out l env) = some v' := look_in (come_mem (hall j hjm) hj) (fun x hx => by
        obtain ⟨q, _, hq⟩ := mem_come hx
        have := huniq q j t x v' hq hj
        subst this
        rw [hq] at hj; cases hj; rfl)
      have e2 : look t (out.reverse ++ env) = some v' := look_in (List.mem_reverse.2 (List.mem_of_getElem? hj)) (fun x hx => by
        rw [List.mem_reverse] at hx
        obtain ⟨q, hq1, hq2⟩ := List.mem_iff_getElem.1 hx
        have hq : out[q]? = some (t, x) := by rw [List.getElem?_eq_getElem hq1, hq2]
        have := huniq q j t x v' hq hj
        subst this
        rw [hq] at hj; cases hj; rfl)
      rw [e1, e2]
    · have e1 : look t (come out l env) = look t env := look_app (fun p hp e => by
        obtain ⟨q, hq1, hq2⟩ := mem_come hp
        obtain ⟨pt, pv⟩ := p
        simp only at e
        subst e
        exact hex ⟨q, pv, hq2⟩)
      have e2 : look t (out.reverse ++ env) = look t env := look_app (fun p hp e => by
        rw [List.mem_reverse] at hp
        obtain ⟨pt, pv⟩ := p
        simp only at e
        subst e
        obtain ⟨q, hq1, hq2⟩ := List.mem_iff_getElem.1 hp
        exact hex ⟨q, pv, by rw [List.getElem?_eq_getElem hq1, hq2]⟩)
      rw [e1, e2]
  have hgood := masks_good ol ol [] rfl (fun i j h => by simp at h)
  refine wp_region_any hm ?_
  let Dn (l : Array Bool) : Prop := ∀ i, (l.getD i false = true) → Afters ol (fun i => l.getD i false = true) i
  refine wpAny_inv (fun l a w => Dn l ∧ ((∀ i, m ≤ i → l.getD i false = false) ∧ Holds w0 N (come out l env) hp a w ∨ ∃ k, m < k ∧ k ≤ ol.length ∧ (∀ i, l.getD i false = true ↔ i < k) ∧ wpList P ol.toArray Q (ol.drop k) a w)) ?_ ?_ (ends_of D.on) _ _ _ _ (by simp) ?_ ?_
  · rintro l a w i ⟨hdn, hI⟩ hls hi hni hr
    have hni' : l.getD i false = false := by
      have hil : i < l.size := by rw [hls]; exact hi
      have : l.getD i true = l.getD i false := by simp [Array.getD_eq_getD_getElem?, hil]
      rw [← this, hni]
    have hi' : i < ol.length := by simpa using hi
    have ho : ol[i]? = some ol[i] := List.getElem?_eq_getElem hi'
    have hoa : ol.toArray[i]? = some ol[i] := by simp
    have hset : ∀ j, (l.setIfInBounds i true).getD j false = true ↔ j = i ∨ l.getD j false = true := by
      intro j
      by_cases e : j = i
      · subst e
        rw [getD_set_self l j false (by rw [hls]; exact hi)]
        simp
      · rw [getD_set_other l i j false (Ne.symm e)]
        simp [e]
    have hai : Afters ol (fun i => l.getD i false = true) i := fun o ho' e he hb => by
      rw [ho] at ho'; cases ho'
      exact hr _ hoa e he hb
    have hdn' : Dn (l.setIfInBounds i true) := by
      intro j hj o hoj e he hb
      rcases (hset j).1 hj with rfl | hj
      · exact (hset _).2 (.inr (hai o hoj e he hb))
      · exact (hset _).2 (.inr (hdn j hj o hoj e he hb))
    have anc : ∀ j, ((masksOf ol []).getD i 0).testBit j = true → l.getD j false = true := fun j hj => hgood i j hj _ (fun q hq => hdn q hq) hai
    rcases hI with ⟨hlate, hh⟩ | ⟨k', hk, hkl, hl, hwp⟩
    · by_cases him : i < m
      · obtain ⟨d, v, h1, h2⟩ := hget i _ him ho
        refine h2.wpOp hoa (D.sel i _ him ho) ?_ hh.env hh.heap ?_
        · intro t ht
          by_cases hex : ∃ (j : Nat) (v' : Value), out[j]? = some (t, v')
          · obtain ⟨j, v', hj⟩ := hex
            obtain ⟨oj, hjm, hoj, hdj⟩ := hout j t v' hj
            rcases D.reads i j _ oj t him hjm ho hoj hdj ht with ⟨h3, h4⟩ | ⟨h3, h4⟩
            · have hlj := anc j h4
              have e1 : look t (come out l env) = some v' := look_in (come_mem hlj hj) (fun x hx => by
                obtain ⟨q, _, hq⟩ := mem_come hx
                have := huniq q j t x v' hq hj
                subst this
                rw [hq] at hj; cases hj; rfl)
              have e2 : look t ((out.take i).reverse ++ env) = some v' := look_in (by
                rw [List.mem_reverse]
                exact List.mem_of_getElem? (i := j) (by rw [List.getElem?_take, if_pos h3]; exact hj)) (fun x hx => by
                rw [List.mem_reverse] at hx
                obtain ⟨q, hq1, hq2⟩ := List.mem_iff_getElem.1 (List.mem_of_mem_take hx)
                have hq : out[q]? = some (t, x) := by rw [List.getElem?_eq_getElem hq1, hq2]
                have := huniq q j t x v' hq hj
                subst this
                rw [hq] at hj; cases hj; rfl)
              rw [e1, e2]
            · have hnl : ¬ l.getD j false = true := by
                intro hlj
                have := hgood j i h4 _ (fun q hq => hdn q hq) (hdn j hlj)
                rw [hni'] at this
                cases this
              have e1 : look t (come out l env) = look t env := look_app (fun p hp e => by
                obtain ⟨q, hq1, hq2⟩ := mem_come hp
                obtain ⟨pt, pv⟩ := p
                simp only at e
                subst e
                have := huniq q j _ pv v' hq2 hj
                subst this
                exact hnl hq1)
              have e2 : look t ((out.take i).reverse ++ env) = look t env := look_app (fun p hp e => by
                rw [List.mem_reverse] at hp
                obtain ⟨q, hq1, hq2⟩ := List.mem_iff_getElem.1 hp
                obtain ⟨pt, pv⟩ := p
                simp only at e
                subst e
                have hq3 : q < i := by simp at hq1; omega
                have hq : out[q]? = some (pt, pv) := by
                  have : (out.take i)[q]? = some (pt, pv) := by rw [List.getElem?_eq_getElem hq1, hq2]
                  rw [List.getElem?_take, if_pos hq3] at this
                  exact this
                have := huniq q j _ pv v' hq hj
                omega)
              rw [e1, e2]
          · have e1 : look t (come out l env) = look t env := look_app (fun p hp e => by
              obtain ⟨q, hq1, hq2⟩ := mem_come hp
              obtain ⟨pt, pv⟩ := p
              simp only at e
              subst e
              exact hex ⟨q, pv, hq2⟩)
            have e2 : look t ((out.take i).reverse ++ env) = look t env := look_app (fun p hp e => by
              rw [List.mem_reverse] at hp
              obtain ⟨pt, pv⟩ := p
              simp only at e
              subst e
              obtain ⟨q, hq1, hq2⟩ := List.mem_iff_getElem.1 (List.mem_of_mem_take hp)
              exact hex ⟨q, pv, by rw [List.getElem?_eq_getElem hq1, hq2]⟩)
            rw [e1, e2]
        · intro w' hb
          refine ⟨hdn', .inl ⟨fun j hj => ?_, ?_⟩⟩
          · cases hv : (l.setIfInBounds i true).getD j false with
            | false => rfl
            | true =>
              rcases (hset j).1 hv with rfl | h
              · omega
              · rw [hlate j hj] at h; cases h
          · obtain ⟨d', hd', hdN⟩ := D.dst i _ him ho
            have hdd : d' = d := by have := h2.1; rw [hd'] at this; cases this; rfl
            subst hdd
            have hp1 := hh.put d' v hdN (hh.heap.below hb)
            refine ⟨hp1.size, hp1.defers, ?_, hp1.heap⟩
            intro t x hx
            by_cases e : t = d'
            · subst e
              have : look t (come out (l.setIfInBounds i true) env) = some v := look_in (come_mem ((hset i).2 (.inl rfl)) h1) (fun x hx => by
                obtain ⟨q, _, hq⟩ := mem_come hx
                have := huniq q i t x v hq h1
                subst this
                rw [hq] at h1; cases h1; rfl)
              rw [this] at hx
              cases hx
              exact hp1.env t v (by rw [look_cons, if_pos rfl])
            · refine hp1.env t x ?_
              rw [look_cons, if_neg e]
              rw [← hx]
              by_cases hex : ∃ (j : Nat) (v' : Value), out[j]? = some (t, v') ∧ l.getD j false = true
              · obtain ⟨j, v', hj, hlj⟩ := hex
                have hin : ∀ (l' : Array Bool), l'.getD j false = true → look t (come out l' env) = some v' := fun l' hl' => look_in (come_mem hl' hj) (fun x hx => by
                  obtain ⟨q, _, hq⟩ := mem_come hx
                  have := huniq q j t x v' hq hj
                  subst this
                  rw [hq] at hj; cases hj; rfl)
                rw [hin l hlj, hin _ ((hset j).2 (.inr hlj))]
              · have e1 : look t (come out l env) = look t env := look_app (fun p hp e => by
                  obtain ⟨q, hq1, hq2⟩ := mem_come hp
                  obtain ⟨pt, pv⟩ := p
                  simp only at e
                  subst e
                  exact hex ⟨q, pv, hq2, hq1⟩)
                have e2 : look t (come out (l.setIfInBounds i true) env) = look t env := look_app (fun p hp e2 => by
                  obtain ⟨q, hq1, hq2⟩ := mem_come hp
                  obtain ⟨pt, pv⟩ := p
                  simp only at e2
                  subst e2
                  rcases (hset q).1 hq1 with rfl | hq1
                  · rw [hq2] at h1; cases h1; exact e rfl
                  · exact hex ⟨q, pv, hq2, hq1⟩)
                rw [e1, e2]
      · have hall : ∀ j, j < i → l.getD j false = true := fun j hj => anc j (D.late i j (by omega) hi' hj)
        have him2 : i = m := by
          rcases Nat.lt_or_ge m i with h | h
          · have := hall m h; rw [hlate m (Nat.le_refl _)] at this; cases this
          · omega
        subst him2
        have hH := hallH l a w hall hh
        have hwl := k a w hH
        rw [List.drop_eq_getElem_cons hi'] at hwl
        unfold Go.wpOp
        simp only [hoa]
        unfold wpList at hwl
        have hfin : ∀ a w, wpList P ol.toArray Q (ol.drop (i + 1)) a w → Dn (l.setIfInBounds i true) ∧ ((∀ j, i ≤ j → (l.setIfInBounds i true).getD j false = false) ∧ Holds w0 N (come out (l.setIfInBounds i true) env) hp a w ∨ ∃ k, i < k ∧ k ≤ ol.length ∧ (∀ j, (l.setIfInBounds i true).getD j false = true ↔ j < k) ∧ wpList P ol.toArray Q (ol.drop k) a w) := by
          intro a w h
          refine ⟨hdn', .inr ⟨i + 1, by omega, by omega, fun j => ?_, h⟩⟩
          rw [hset j]
          constructor
          · rintro (rfl | h2)
            · omega
            · by_cases hji : i ≤ j
              · rw [hlate j hji] at h2; cases h2
              · omega
          · intro h2
            by_cases hji : j = i
            · exact .inl hji
            · exact .inr (hall j (by omega))
        split
        · rename_i hw
          rw [if_pos hw] at hwl
          exact hwl.imp (Oper.wp_mono hfin) (fun x => x)
        · rename_i hw
          rw [if_neg hw] at hwl
          exact hfin _ _ hwl
    · have hk2 : i = k' := by
        have h1 : ¬ i < k' := fun h => by
          have := (hl i).2 h
          rw [hni'] at this; cases this
        rcases Nat.lt_or_ge k' i with h | h
        · have := (hl k').1 (anc k' (D.late i k' (by omega) hi' h))
          omega
        · omega
      subst hk2
      rw [List.drop_eq_getElem_cons hi'] at hwp
      unfold Go.wpOp
      simp only [hoa]
      unfold wpList at hwp
      have hfin : ∀ a w, wpList P ol.toArray Q (ol.drop (i + 1)) a w → Dn (l.setIfInBounds i true) ∧ ((∀ j, m ≤ j → (l.setIfInBounds i true).getD j false = false) ∧ Holds w0 N (come out (l.setIfInBounds i true) env) hp a w ∨ ∃ k, m < k ∧ k ≤ ol.length ∧ (∀ j, (l.setIfInBounds i true).getD j false = true ↔ j < k) ∧ wpList P ol.toArray Q (ol.drop k) a w) := by
        intro a w h
        refine ⟨hdn', .inr ⟨i + 1, by omega, by omega, fun j => ?_, h⟩⟩
        rw [hset j, hl j]
        omega
      split
      · rename_i hw
        rw [if_pos hw] at hwp
        exact hwp.imp (Oper.wp_mono hfin) (fun x => x)
      · rename_i hw
        rw [if_neg hw] at hwp
        exact hfin _ _ hwp
  · rintro l a w ⟨hdn, hI⟩ hall
    rcases hI with ⟨hlate, hh⟩ | ⟨k', hk, hkl, hl, hwp⟩
    · have hmm : m = ol.length := by
        rcases Nat.lt_or_ge m ol.length with h | h
        · have := hall m (by simpa using h)
          rw [hlate m (Nat.le_refl _)] at this; cases this
        · omega
      have := k a w (hallH l a w (fun j hj => hall j (by simp; omega)) hh)
      rw [hmm, List.drop_length] at this
      exact this
    · have hkk : k' = ol.length := by
        rcases Nat.lt_or_ge k' ol.length with h | h
        · have := (hl k').1 (hall k' (by simpa using h))
          omega
        · omega
      rw [hkk, List.drop_length] at hwp
      exact hwp
  · unfold cntF
    refine Nat.le_trans (List.countP_le_length) (by simp)
  · have hrep : ∀ j, (Array.replicate ol.toArray.size false).getD j false = false := by
      intro j
      by_cases hj : j < ol.length <;> simp [Array.getD_eq_getD_getElem?, hj]
    refine ⟨fun i hi => ?_, .inl ⟨fun j _ => hrep j, ?_⟩⟩
    · rw [hrep i] at hi; cases hi
    · have : come out (Array.replicate ol.toArray.size false) env = env := by
        unfold come
        have : (List.range out.length).filter (fun i => (Array.replicate ol.toArray.size false).getD i false) = [] := by
          rw [List.filter_eq_nil_iff]
          intro i _
          rw [hrep i]
          simp
        rw [this]
        rfl
      rw [this]
      exact ⟨hh.size, hh.defers, hh.env, hh.heap.drawn _⟩
end
end Go.Sx
end
