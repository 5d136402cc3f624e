/- Texts of mine, put together (no statement stands here). -/
import Derived.Test.YtdmefmeeckjcpaaCOwn2
import Derived.Test.YtdmefmeeckjcpaaCOwn5
import Derived.Test.YtdmefmeeckjcpaaCOwn4
import Derived.Deep.Upon
import Derived.MapKept
import Derived.Test.YtdmefmeeckjcpaaProg
section
namespace Go.Sx
open Go.RowKit Go.Proofs.YtdmefmeeckjcpaaW.PrintWords Go.Proofs.YtdmefmeeckjcpaaW.PrintLast Go.Proofs.YtdmefmeeckjcpaaW.PrintMore
set_option linter.unusedVariables false
set_option linter.unusedSimpArgs false
theorem own_of_R {k : IntKind} {e base : Nat} {ok : Nat → Prop} {w : World} {v : Value} {xs : List Int} (h : (Kd.int k).R e w base ok v xs) : w.ownsRow base e 1 v xs.length (nums k xs) := by
  obtain ⟨_, inner, ho, hr⟩ := h
  have : inner = nums k xs := by
    obtain ⟨h1, h2⟩ := hr
    apply List.ext_getElem?
    intro j
    unfold nums
    rw [List.getElem?_map]
    cases hx : xs[j]? with
    | none =>
      have : xs.length ≤ j := by simpa using hx
      rw [List.getElem?_eq_none (by rw [h1]; simpa [Kd.int, Kd.scalar] using this)]
      rfl
    | some x =>
      have hM : (inner.drop (j * 1)).take 1 = [.int k x] := h2 j x hx
      have := congrArg (fun l => l[0]?) hM
      simpa using this
  rw [← this]
  exact ho
end Go.Sx
end
section
namespace Go.Sx
open Go.RowKit
set_option linter.unusedVariables false
set_option linter.unusedSimpArgs false
section
variable {P : Program} {ops : Array Oper} {Q : Exit → Act → World → Prop} {w0 : World} {N : Fr} {l : List Oper} {env : Env} {hp : List Item} {o : Oper}
theorem wl_callK {ι : Type} {f d : Nat} {args : Array Operand} {ts : Array TypeId} {vs : List Value} (rv : ι → Value) (C : ι → World → World → Prop) (ho : o.op = .call { callee := .value (.func f), args := args, argTypes := ts }) (hg : o.guard = none) (hd : o.dst = some d) (hN : d < N)
    (he : Ent P f) (ha : evL args.toList env = some vs) (hc : ∀ w, HeapOK w0 hp w → Calls P f vs.toArray w (fun e w' => ∃ i, C i w w' ∧ e = .returned (rv i) ∧ Below w.heap.size w w'))
    (k : ∀ i w w1, HeapOK w0 hp w → HeapOK w0 hp w1 → Below w.heap.size w w1 → C i w w1 → WL P ops Q w1 N l ((d, rv i) :: env) [old w1]) : WL P ops Q w0 N (o :: l) env hp := by
  intro a w h
  refine wpList_plain hg fun K hK => ?_
  unfold Oper.wp
  rw [call_func ho, evA_of h.env ha, he]
  rw [Oper.upon_enter]
  refine (hc w h.heap).mono ?_
  rintro e w' ⟨i, hC, rfl, hb⟩
  refine hK _ _ ?_
  rw [hd]
  have hp1 := h.put d (rv i) hN (h.heap.below hb)
  exact k i w w' h.heap (h.heap.below hb) hb hC _ _ ⟨hp1.size, hp1.defers, hp1.env, HeapOK.start w'⟩
theorem HeapOK.thaw {w wF : World} {i b : Nat} {F : Nat → Prop} {cs : List Value} {T : TypeId} (h : HeapOK w0 hp w) (hi : hp[i]? = some (.ro F wF)) (hF : F b) (hb : wF.heap[b]? = some (.cells cs.toArray T (0, 0))) (hn : (hp.eraseIdx i).all (fun x => !x.sh) = true) : HeapOK w0 (.blk b cs T :: hp.set i (.ro (fun k => F k ∧ k ≠ b) wF)) w := by
  obtain ⟨hil, hie⟩ := List.getElem?_eq_some_iff.1 hi
  have hit : Item.ro F wF ∈ hp := List.mem_of_getElem? hi
  have hap := List.pairwise_iff_getElem.1 h.apart
  have hsh : ∀ (j : Nat) (hj : j < hp.length), j ≠ i → (hp[j]).sh = false := by
    intro j hj hne
    have hm : hp[j] ∈ hp.eraseIdx i := by
      rw [List.mem_eraseIdx_iff_getElem]
      exact ⟨j, hj, hne, rfl⟩
    simpa using List.all_eq_true.1 hn _ hm
  have hmem : ∀ x ∈ hp.set i (.ro (fun k => F k ∧ k ≠ b) wF), x = .ro (fun k => F k ∧ k ≠ b) wF ∨ (x ∈ hp ∧ ¬ x.foot b) := by
    intro x hx
    obtain ⟨j, hj, rfl⟩ := List.mem_iff_getElem.1 hx
    rw [List.getElem_set]
    rw [List.length_set] at hj
    split
    · exact .inl rfl
    · rename_i hne
      refine .inr ⟨List.getElem_mem _, fun hf => ?_⟩
      have hs := hsh j hj (fun e => hne e.symm)
      rcases Nat.lt_or_ge i j with hij | hij
      · exact (hap i j hil hj hij).r hs b (by rw [hie]; exact hF) hf
      · exact (hap j i hj hil (by omega)).l hs b hf (by rw [hie]; exact hF)
  refine ⟨h.os, h.tape, h.output, h.size, fun x hx => ?_, fun x hx k hk => ?_, List.pairwise_cons.2 ⟨fun x hx => .inr fun k hk hk2 => ?_, ?_⟩⟩
  · rcases List.mem_cons.1 hx with rfl | hx
    · exact ((h.ok _ hit) b hF).trans hb
    · rcases hmem x hx with rfl | ⟨hx, _⟩
      · exact fun k hk => (h.ok _ hit) k hk.1
      · exact h.ok x hx
  · rcases List.mem_cons.1 hx with rfl | hx
    · have e : k = b := hk
      subst e
      exact h.bound _ hit k hF
    · rcases hmem x hx with rfl | ⟨hx, _⟩
      · exact h.bound _ hit k hk.1
      · exact h.bound x hx k hk
  · have e : k = b := hk
    subst e
    rcases hmem x hx with rfl | ⟨_, hx⟩
    · exact hk2.2 rfl
    · exact hx hk2
  · rw [List.pairwise_iff_getElem]
    intro x y hx hy hxy
    rw [List.length_set] at hx hy
    have hxy' := hap x y hx hy hxy
    rw [List.getElem_set, List.getElem_set]
    by_cases ex : i = x
    · subst ex
      rw [if_pos rfl, if_neg (by omega)]
      have hs := hsh y hy (by omega)
      rw [hie] at hxy'
      exact .inr fun k hk => hxy'.r hs k hk.1
    · rw [if_neg ex]
      by_cases ey : i = y
      · subst ey
        rw [if_pos rfl]
        have hs := hsh x hx (by omega)
        rw [hie] at hxy'
        exact .inr fun k hk hk2 => hxy'.l hs k hk hk2.1
      · rw [if_neg ey]
        exact hxy'
theorem wl_thaw {wF : World} {F : Nat → Prop} {b : Nat} {cs : List Value} {T : TypeId} (i : Nat) (hi : hp[i]? = some (.ro F wF)) (hF : F b) (hb : wF.heap[b]? = some (.cells cs.toArray T (0, 0))) (k : WL P ops Q w0 N l env (.blk b cs T :: hp.set i (.ro (fun k => F k ∧ k ≠ b) wF))) (hn : (hp.eraseIdx i).all (fun x => !x.sh) = true := by rfl) : WL P ops Q w0 N l env hp := fun a w h => k a w ⟨h.size, h.defers, h.env, h.heap.thaw hi hF hb hn⟩
end
end Go.Sx
end
section
namespace Go.Sx
open Go.RowKit
set_option linter.unusedVariables false
set_option linter.unusedSimpArgs false
section
variable {P : Program} {ops : Array Oper} {Q : Exit → Act → World → Prop} {w0 : World} {N : Fr} {l : List Oper} {env : Env} {hp : List Item} {o : Oper}
theorem cell_zero {w : World} {ad : Addr} {v : Value} (h : w.cell? ad = some v) : ∀ (j : Nat) (u : Value), [v][j]? = some u → w.cell? (ad.add j) = some u := by
  intro j u hu
  cases j with
  | zero => cases hu; rw [add_zero]; exact h
  | succ j => simp at hu
theorem Reads.at {ad : Addr} {cs : List Value} {j : Nat} {v : Value} (h : Reads w0 hp ad cs) (hj : cs[j]? = some v) : Reads w0 hp (ad.add j) [v] := fun w hw i u hu => by
  cases i with
  | zero => cases hu; rw [add_zero]; exact h w hw j v hj
  | succ i => simp at hu
end
end Go.Sx
end
section
namespace Go.Sx
open Go.RowKit
set_option linter.unusedVariables false
set_option linter.unusedSimpArgs false
section
variable {P : Program} {ops : Array Oper} {Q : Exit → Act → World → Prop} {w0 : World} {N : Fr} {l : List Oper} {env : Env} {hp : List Item} {o : Oper}
theorem OpQ.to {v v' : Value} (h : OpQ P o env w0 hp v) (e : v = v') : OpQ P o env w0 hp v' := e ▸ h
end
end Go.Sx
end
section
namespace Go.Sx
open Go.RowKit
set_option linter.unusedVariables false
set_option linter.unusedSimpArgs false
abbrev Gh := Option Addr × Nat
section
variable {P : Program} {ops : Array Oper} {Q : Exit → Act → World → Prop} {w0 : World} {N : Fr} {l : List Oper} {env : Env} {hp : List Item} {o : Oper} {ny : Nat}
theorem ChainG.mk {m : Nat} {TL : List (Nat × ((Nat → Gh) → List Item))} {i : Nat} {E Ef : (Nat → Gh) → Env} {S : List (Sp Gh)} {d : Nat} {it : (Nat → Gh) → Nat → Item} (vb : Nat → Value) (D : List Nat) (hq : ∀ X, OpM (ι := Nat) P o (E X) w0 (hp.drop ny) vb (it X)) (hg : o.guard = none) (hd : o.dst = some d) (ht : ∀ X, tk TL i X = [it X (X i).2]) (hc : ∀ X x, it (gset X i x) = it X) (hl : LocG i D (fun X => vb (X i).2) (fun X => [it X (X i).2]))
    (k : ChainG P w0 hp m ny ops TL (i + 1) l (fun X => (d, vb (X i).2) :: E X) S Ef) : ChainG P w0 hp m ny ops TL i (o :: l) E (⟨some d, fun X => vb (X i).2, [], [], D⟩ :: S) Ef :=
  .ope (fun X => vb (X i).2) [] D (fun X => by
    have h := (hq X).gmap (ι := Gh) (·.2) (fun k => (none, k)) (fun _ => rfl)
    simp only [ht, hc, gset_self]
    exact h) hg hd (fun X X' h1 h2 => ⟨(hl X X' h1 h2).1, by rw [ht, ht]; exact (hl X X' h1 h2).2⟩) k
theorem HeapOK.frame {w : World} {X R : List Item} (h : HeapOK w0 (X ++ (R ++ hp)) w) : HeapOK w0 hp w := h.sub ((List.sublist_append_right _ _).trans (List.sublist_append_right _ _))
theorem OpE.less {ι : Type} {X : List Item} {v : ι → Value} {X' X2 : ι → List Item} (h : OpE P o env w0 hp X v X') (hs : ∀ x, (X2 x).Sublist (X' x)) : OpE P o env w0 hp X v X2 := by
  intro R a w he hh
  have := h R a w he hh
  generalize (execOp a.eval o).run P w = r at this
  cases r with
  | halt x w' => exact this.elim
  | ok n w' =>
    cases n <;> try exact this.elim
    · obtain ⟨x, h1, h2⟩ := this
      exact ⟨x, h1, h2.sub (List.Sublist.append_right (hs x) _)⟩
    · obtain ⟨x, h1, h2⟩ := this
      exact ⟨x, h1, h2.sub (List.Sublist.append_right (hs x) _)⟩
    · exact Calls.mono this (fun e w'' ⟨x, h1, h2⟩ => ⟨x, h1, h2.sub (List.Sublist.append_right (hs x) _)⟩)
end
end Go.Sx
end
section
namespace Go.Sx
open Go.RowKit
set_option linter.unusedVariables false
set_option linter.unusedSimpArgs false
section
variable {P : Program} {ops : Array Oper} {Q : Exit → Act → World → Prop} {w0 : World} {N : Fr} {l : List Oper} {env : Env} {hp : List Item} {o : Oper}
theorem q_eqlStr {op : BinOp} {t u : TypeId} {x y : Operand} {a b : ByteArray} {c : Bool} (ho : o.op = .binOp op t x y u) (hop : op = .eql ∧ (a.toList == b.toList) = c ∨ op = .neq ∧ (!(a.toList == b.toList)) = c) (hx : evE x env = some (.string a)) (hy : evE y env = some (.string b)) (hT : ∀ w : World, (eqGuard op t x y (.string a) (.string b)).run P w = .ok () w) : OpQ P o env w0 hp (.bool c) :=
  q_eq ho (hop.elim (fun h => .inl h.1) (fun h => .inr h.1)) hx hy fun w => ⟨hT w, by
    rcases hop with ⟨rfl, rfl⟩ | ⟨rfl, rfl⟩ <;> rfl⟩
end
end Go.Sx
end
section
namespace Go.Sx
open Go.RowKit
set_option linter.unusedVariables false
set_option linter.unusedSimpArgs false
def Blk (w : World) (b : Nat) (cs : List Value) (T : TypeId) : Prop := w.heap[b]? = some (.cells cs.toArray T (0, 0))
theorem Blk.below {w w' : World} {b : Nat} {cs : List Value} {T : TypeId} (h : Blk w b cs T) (hb : Below w.heap.size w w') : Blk w' b cs T := (hb.block b (Array.getElem?_eq_some_iff.1 h).1).trans h
theorem _root_.Go.RowKit.Below.next {w w1 w2 : World} (h : Below w.heap.size w w1) (h2 : Below w1.heap.size w1 w2) : Below w.heap.size w w2 := h.trans (h2.mono h.size)
def CellsAt (w : World) (ad : Addr) (cs : List Value) : Prop := ∀ (j : Nat) (u : Value), cs[j]? = some u → w.cell? (ad.add j) = some u
theorem CellsAt.below {w w' : World} {ad : Addr} {cs : List Value} (h : CellsAt w ad cs) (hb : Below w.heap.size w w') : CellsAt w' ad cs := fun j u hu => by
  have hc := h j u hu
  rw [hb.cell (p := ad.add j) (block_lt_of_cell hc)]
  exact hc
theorem CellsAt.one {w : World} {ad : Addr} {k j : Nat} {cs : List Value} {u : Value} (h : CellsAt w (ad.add k) cs) (hu : cs[j]? = some u) : w.cell? (ad.add (k + j)) = some u := by
  have := h j u hu
  rwa [add_add] at this
section
variable {P : Program} {ops : Array Oper} {Q : Exit → Act → World → Prop} {w0 : World} {N : Fr} {l : List Oper} {env : Env} {hp : List Item} {o : Oper}
theorem reads_blk {b off : Nat} {cs : List Value} {T : TypeId} {v : Value} (hm : old w0 ∈ hp) (h : Blk w0 b cs T) (hc : cs[off]? = some v) : Reads w0 hp ⟨b, off, none⟩ [v] := reads_old hm (cell_zero (by rw [cell_of_row w0 b off cs.toArray T (0, 0) h]; simpa using hc))
theorem wc_ground {c : Code} (k : ∀ wn, HeapOK w0 hp wn → WC P c Q wn N env [old wn]) : WC P c Q w0 N env hp := fun a w h => k w h.heap a w ⟨h.size, h.defers, h.env, HeapOK.start w⟩
theorem wl_ground (k : ∀ wn, HeapOK w0 hp wn → WL P ops Q wn N l env [old wn]) : WL P ops Q w0 N l env hp := fun a w h => k w h.heap a w ⟨h.size, h.defers, h.env, HeapOK.start w⟩
theorem fq_ground {e : Exit} (k : ∀ wn, HeapOK w0 hp wn → FQ Q e wn N env [old wn]) : FQ Q e w0 N env hp := fun a w h => k w h.heap a w ⟨h.size, h.defers, h.env, HeapOK.start w⟩
end
end Go.Sx
end
section
namespace Go.Sx
open Go.RowKit Go.Proofs.YtdmefmeeckjcpaaW.PrintWords
set_option linter.unusedVariables false
set_option linter.unusedSimpArgs false
section
variable {P : Program} {ops : Array Oper} {Q : Exit → Act → World → Prop} {w0 : World} {N : Fr} {l : List Oper} {env : Env} {hp : List Item} {o : Oper}
theorem q_bytesStr {s t e : TypeId} {x : Operand} {A : Option Addr} {n c : Nat} {xs : List Int} (ho : o.op = .convert s t x) (hx : evE x env = some (.slice A n c)) (hs : P.underlying s = some (.slice e)) (he : P.underlying e = some (.int .u8)) (ht : P.underlying t = some .string) (h : ∀ w, HeapOK w0 hp w → (Kd.int .u8).C w A n xs) : OpQ P o env w0 hp (.string (strOfNums xs)) := q_run fun a w hev hh => by
  unfold execOp
  simp only [ho, ev_of hev hx, Sem.run_bind, Kd.C_string hs he ht (h w hh)]
  rfl
end
end Go.Sx
end
section
namespace Go.Sx
open Go.RowKit
set_option linter.unusedVariables false
set_option linter.unusedSimpArgs false
structure Upd (b : Nat) (T : TypeId) (cs cs' : List Value) (w w' : World) : Prop where
  os : w'.os = w.os
  tape : w'.tape = w.tape
  output : w'.output = w.output
  size : w.heap.size ≤ w'.heap.size
  was : Blk w b cs T
  now : Blk w' b cs' T
  other : ∀ k, k < w.heap.size → k ≠ b → w'.heap[k]? = w.heap[k]?
theorem Upd.below {b : Nat} {T : TypeId} {cs cs' : List Value} {w w' : World} {n : Nat} (h : Upd b T cs cs' w w') (hn : n ≤ b) (hn2 : n ≤ w.heap.size) : Below n w w' :=
  ⟨h.os, h.tape, h.output, h.size, fun k hk => h.other k (by omega) (by omega)⟩
theorem Upd.cell {b : Nat} {T : TypeId} {cs cs' : List Value} {w w' : World} {ad : Addr} {v : Value} (h : Upd b T cs cs' w w') (hc : w.cell? ad = some v) (hn : ad.block ≠ b) : w'.cell? ad = some v := by
  rw [cell_move (w := w) (h.other ad.block (block_lt_of_cell hc) hn)]
  exact hc
theorem Upd.blk {b b2 : Nat} {T T2 : TypeId} {cs cs' cs2 : List Value} {w w' : World} (h : Upd b T cs cs' w w') (h2 : Blk w b2 cs2 T2) (hT : T2 ≠ T) : Blk w' b2 cs2 T2 := by
  have hb : b2 ≠ b := by
    rintro rfl
    have h3 := (Option.some.inj (h2.symm.trans h.was))
    cases h3
    exact hT rfl
  exact (h.other b2 (Array.getElem?_eq_some_iff.1 h2).1 hb).trans h2
theorem _root_.Go.RowKit.Below.nextV {n : Nat} {w w1 w2 : World} (h : Below n w w1) (hn : n ≤ w1.heap.size) (h2 : Below w1.heap.size w1 w2) : Below n w w2 := h.trans (h2.mono hn)
section
variable {P : Program} {ops : Array Oper} {Q : Exit → Act → World → Prop} {w0 : World} {N : Fr} {l : List Oper} {env : Env} {hp : List Item} {o : Oper}
theorem wl_storeK {T T' : TypeId} {x y : Operand} {b off n : Nat} {cs vs cs' : List Value} {v : Value} (hb : Blk w0 b cs T') (ho : o.op = .store T x y) (hg : o.guard = none) (hd : o.dst = none) (hx : evE x env = some (.pointer (some ⟨b, off, none⟩))) (hy : evE y env = some v)
    (hs : P.sizeIs T = some n) (hv : v.cells = vs.toArray) (hn : vs.length = n) (hfit : off + n ≤ cs.length) (h1 : ∀ u ∈ vs, u.oneCell' = true) (hc : cs.take off ++ vs ++ cs.drop (off + vs.length) = cs')
    (k : ∀ w w2, HeapOK w0 [old w0] w → Upd b T' cs cs' w w2 → WL P ops Q w2 N l env [old w2]) : WL P ops Q w0 N (o :: l) env [old w0] := by
  refine wl_ground (fun wn hn1 => ?_)
  have hbn : Blk wn b cs T' := hb.below (hn1.toBelow (by simp))
  have hlt : b < wn.heap.size := (Array.getElem?_eq_some_iff.1 hbn).1
  refine wl_thaw 0 rfl hlt hbn ?_
  refine wl_store (i := 0) ho hg hd hx hy rfl hs hv hn hfit h1 hc rfl ?_
  refine wl_ground (fun w2 h2 => k wn w2 hn1 ⟨h2.os, h2.tape, h2.output, h2.size, hbn, h2.get (i := 0) rfl, fun j hj hne => ?_⟩)
  exact (h2.ok (.ro (fun k => k < wn.heap.size ∧ k ≠ b) wn) (by simp)) j ⟨hj, hne⟩
theorem HeapOK.rebaseV {wg w : World} {n : Nat} (hb : Below n w0 wg) (h : HeapOK w0 [old wg] w) : HeapOK wg [old wg] w :=
  ⟨h.os.trans hb.os.symm, h.tape.trans hb.tape.symm, h.output.trans hb.output.symm, by
    rcases Nat.lt_or_ge w.heap.size wg.heap.size with h1 | h1
    · have := h.bound _ List.mem_cons_self w.heap.size h1
      omega
    · exact h1, h.ok, h.bound, h.apart⟩
theorem wc_rebaseV {c : Code} {wg : World} {n : Nat} (hb : Below n w0 wg) (k : WC P c Q wg N env [old wg]) : WC P c Q w0 N env [old wg] := fun a w h => k a w ⟨h.size, h.defers, h.env, h.heap.rebaseV hb⟩
theorem fq_nextV {wb : World} {ι : Type} {E : ι → Env} {J : ι → List Item} {C : ι → Prop} {μ : ι → Nat} {i : ι} {n : Nat} (j : ι) (hb : Below n w0 wb) (hJ : J j = [old wb]) (hm : old wb ∈ hp) (hC : C j) (hμ : μ j < μ i) (hl : ∀ p ∈ E j, look p.1 env = some p.2) : FQ (Exit.then (Next w0 N E J C μ i) Q) .normal wb N env hp := fun a w hh => by
  refine ⟨j, hC, hμ, hh.size, hh.defers, fun t v ht => hh.env t v (hl (t, v) (look_mem ht)), ?_⟩
  rw [hJ]
  have h1 := hh.heap.toBelow hm
  refine ⟨h1.os.trans hb.os, h1.tape.trans hb.tape, h1.output.trans hb.output, Nat.le_trans hb.size h1.size, fun it hi => ?_, fun it hi k hk => ?_, List.pairwise_singleton _ _⟩
  · obtain rfl := List.mem_singleton.1 hi
    exact h1.block
  · obtain rfl := List.mem_singleton.1 hi
    exact Nat.lt_of_lt_of_le hk h1.size
theorem wc_loopV {ι : Type} {c : Code} {n : Nat} (E : ι → Env) (W : ι → World) (C : ι → Prop) (μ : ι → Nat) (i0 : ι) (hW : W i0 = w0) (hC : C i0) (hm : old w0 ∈ hp) (h0 : ∀ p ∈ E i0, look p.1 env = some p.2) (hb : ∀ i, C i → Below n w0 (W i))
    (round : ∀ i, C i → WC P c (Exit.then (Next w0 N E (fun i => [old (W i)]) C μ i) Q) (W i) N (E i) [old (W i)]) : WC P (.loop c) Q w0 N env hp :=
  wc_loop E (fun i => [old (W i)]) C μ i0 hC ⟨h0, by rw [hW]; exact List.singleton_sublist.2 hm⟩ (fun i hi => wc_rebaseV (hb i hi) (round i hi))
end
end Go.Sx
end
section
namespace Go.Sx
open Go.RowKit
set_option linter.unusedVariables false
set_option linter.unusedSimpArgs false
section
variable {P : Program} {ops : Array Oper} {Q : Exit → Act → World → Prop} {w0 : World} {N : Fr} {l : List Oper} {env : Env} {hp : List Item} {o : Oper}
theorem WC.less {c : Code} {env' : Env} {hp' : List Item} (k : WC P c Q w0 N env' hp') (h : Less env hp env' hp') : WC P c Q w0 N env hp := fun a w hh => k a w (hh.less h)
end
end Go.Sx
end
section
namespace Go.Proofs.Ytdmefmeeckjcpaa.SF
open Go.RowKit Go.Sx
theorem Sz5 : Try.prog.sizeIs 5 = some 1 := by kernel_rfl
theorem Mn5 : Try.prog.manyB 5 = some false := by kernel_rfl
theorem Zs5 : ((Try.prog.info? 5).bind (·.zero)).map (fun z => z.cells.size) = some 1 := by kernel_rfl
theorem Ap5 : (Try.prog.info? 5).map (fun i => (i.size, i.bytes, (i.zero.map (fun z => z.cells.size)).getD 0)) = some (1, 1, 1) := by kernel_rfl
theorem Sz24 : Try.prog.sizeIs 24 = some 1 := by kernel_rfl
theorem Mn24 : Try.prog.manyB 24 = some false := by kernel_rfl
theorem Zs24 : ((Try.prog.info? 24).bind (·.zero)).map (fun z => z.cells.size) = some 1 := by kernel_rfl
theorem Ap24 : (Try.prog.info? 24).map (fun i => (i.size, i.bytes, (i.zero.map (fun z => z.cells.size)).getD 0)) = some (1, 24, 1) := by kernel_rfl
theorem Fol : Try.prog.follows .mixedOrders = true := by kernel_rfl
theorem En4 : Ent Try.prog 4 := fun args w => ent_of Try.func4 (by kernel_rfl) rfl args w
theorem En5 : Ent Try.prog 5 := fun args w => ent_of Try.func5 (by kernel_rfl) rfl args w
theorem En6 : Ent Try.prog 6 := fun args w => ent_of Try.func6 (by kernel_rfl) rfl args w
theorem En9 : Ent Try.prog 9 := fun args w => ent_of Try.func9 (by kernel_rfl) rfl args w
end Go.Proofs.Ytdmefmeeckjcpaa.SF
end
