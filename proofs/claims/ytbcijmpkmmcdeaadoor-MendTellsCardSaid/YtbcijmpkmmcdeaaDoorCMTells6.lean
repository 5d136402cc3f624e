/- Texts of mine, put together (no statement stands here). -/
import Derived.Test.YtbcijmpkmmcdeaaDoorCMTells2
import Derived.Test.YtbcijmpkmmcdeaaDoorCMTells5
import Derived.Test.YtbcijmpkmmcdeaaDoorCMTells4
section
namespace Go.Sx
open Go.RowKit Go.Proofs.YtbcijmpkmmcdeaaDoorW.PrintWords Go.Proofs.YtbcijmpkmmcdeaaDoorW.PrintLast Go.Proofs.YtbcijmpkmmcdeaaDoorW.PrintMore
set_option linter.unusedVariables false
set_option linter.unusedSimpArgs false
theorem own_of_R {k : IntKind} {e base : Nat} {ok : Nat → Prop} {w : World} {v : Value} {xs : List Int} (h : (Kd.int k).R e w base ok v xs) : w.ownsRow base e 1 v xs.length (nums k xs) := by
  obtain ⟨_, inner, ho, hr⟩ := h
  have : inner = nums k xs := by
    obtain ⟨h1, h2⟩ := hr
    apply List.ext_getElem?
    intro j
    unfold nums
    rw [List.getElem?_map]
    cases hx : xs[j]? with
    | none =>
      have : xs.length ≤ j := by simpa using hx
      rw [List.getElem?_eq_none (by rw [h1]; simpa [Kd.int, Kd.scalar] using this)]
      rfl
    | some x =>
      have hM : (inner.drop (j * 1)).take 1 = [.int k x] := h2 j x hx
      have := congrArg (fun l => l[0]?) hM
      simpa using this
  rw [← this]
  exact ho
theorem C_of_own {k : IntKind} {e base c : Nat} {w : World} {A : Option Addr} {xs : List Int} (h : w.ownsRow base e 1 (.slice A xs.length c) xs.length (nums k xs)) (hn : xs.length ≤ 9223372036854775807) : (Kd.int k).C w A xs.length xs := by
  obtain ⟨ad, hA, hc⟩ := own_cell h (by decide)
  refine ⟨rfl, hn, fun h0 => ⟨ad, hA h0, fun j p hp => ⟨[.int k p], rfl, rfl, fun i u hu => ?_⟩⟩⟩
  cases i with
  | zero =>
    cases hu
    have := hc j (.int k p) (by unfold nums; rw [List.getElem?_map, hp]; rfl)
    simpa [Kd.int, Kd.scalar] using this
  | succ i => simp at hu
end Go.Sx
end
section
namespace Go.Sx
open Go.RowKit
set_option linter.unusedVariables false
set_option linter.unusedSimpArgs false
section
variable {P : Program} {ops : Array Oper} {Q : Exit → Act → World → Prop} {w0 : World} {N : Fr} {l : List Oper} {env : Env} {hp : List Item} {o : Oper}
theorem wl_callK {ι : Type} {f d : Nat} {args : Array Operand} {ts : Array TypeId} {vs : List Value} (rv : ι → Value) (C : ι → World → World → Prop) (ho : o.op = .call { callee := .value (.func f), args := args, argTypes := ts }) (hg : o.guard = none) (hd : o.dst = some d) (hN : d < N)
    (he : Ent P f) (ha : evL args.toList env = some vs) (hc : ∀ w, HeapOK w0 hp w → Calls P f vs.toArray w (fun e w' => ∃ i, C i w w' ∧ e = .returned (rv i) ∧ Below w.heap.size w w'))
    (k : ∀ i w w1, HeapOK w0 hp w → HeapOK w0 hp w1 → Below w.heap.size w w1 → C i w w1 → WL P ops Q w1 N l ((d, rv i) :: env) [old w1]) : WL P ops Q w0 N (o :: l) env hp := by
  intro a w h
  refine wpList_plain hg fun K hK => ?_
  unfold Oper.wp
  rw [call_func ho, evA_of h.env ha, he]
  rw [Oper.upon_enter]
  refine (hc w h.heap).mono ?_
  rintro e w' ⟨i, hC, rfl, hb⟩
  refine hK _ _ ?_
  rw [hd]
  have hp1 := h.put d (rv i) hN (h.heap.below hb)
  exact k i w w' h.heap (h.heap.below hb) hb hC _ _ ⟨hp1.size, hp1.defers, hp1.env, HeapOK.start w'⟩
theorem HeapOK.thaw {w wF : World} {i b : Nat} {F : Nat → Prop} {cs : List Value} {T : TypeId} (h : HeapOK w0 hp w) (hi : hp[i]? = some (.ro F wF)) (hF : F b) (hb : wF.heap[b]? = some (.cells cs.toArray T (0, 0))) (hn : (hp.eraseIdx i).all (fun x => !x.sh) = true) : HeapOK w0 (.blk b cs T :: hp.set i (.ro (fun k => F k ∧ k ≠ b) wF)) w := by
  obtain ⟨hil, hie⟩ := List.getElem?_eq_some_iff.1 hi
  have hit : Item.ro F wF ∈ hp := List.mem_of_getElem? hi
  have hap := List.pairwise_iff_getElem.1 h.apart
  have hsh : ∀ (j : Nat) (hj : j < hp.length), j ≠ i → (hp[j]).sh = false := by
    intro j hj hne
    have hm : hp[j] ∈ hp.eraseIdx i := by
      rw [List.mem_eraseIdx_iff_getElem]
      exact ⟨j, hj, hne, rfl⟩
    simpa using List.all_eq_true.1 hn _ hm
  have hmem : ∀ x ∈ hp.set i (.ro (fun k => F k ∧ k ≠ b) wF), x = .ro (fun k => F k ∧ k ≠ b) wF ∨ (x ∈ hp ∧ ¬ x.foot b) := by
    intro x hx
    obtain ⟨j, hj, rfl⟩ := List.mem_iff_getElem.1 hx
    rw [List.getElem_set]
    rw [List.length_set] at hj
    split
    · exact .inl rfl
    · rename_i hne
      refine .inr ⟨List.getElem_mem _, fun hf => ?_⟩
      have hs := hsh j hj (fun e => hne e.symm)
      rcases Nat.lt_or_ge i j with hij | hij
      · exact (hap i j hil hj hij).r hs b (by rw [hie]; exact hF) hf
      · exact (hap j i hj hil (by omega)).l hs b hf (by rw [hie]; exact hF)
  refine ⟨h.os, h.tape, h.output, h.size, fun x hx => ?_, fun x hx k hk => ?_, List.pairwise_cons.2 ⟨fun x hx => .inr fun k hk hk2 => ?_, ?_⟩⟩
  · rcases List.mem_cons.1 hx with rfl | hx
    · exact ((h.ok _ hit) b hF).trans hb
    · rcases hmem x hx with rfl | ⟨hx, _⟩
      · exact fun k hk => (h.ok _ hit) k hk.1
      · exact h.ok x hx
  · rcases List.mem_cons.1 hx with rfl | hx
    · have e : k = b := hk
      subst e
      exact h.bound _ hit k hF
    · rcases hmem x hx with rfl | ⟨hx, _⟩
      · exact h.bound _ hit k hk.1
      · exact h.bound x hx k hk
  · have e : k = b := hk
    subst e
    rcases hmem x hx with rfl | ⟨_, hx⟩
    · exact hk2.2 rfl
    · exact hx hk2
  · rw [List.pairwise_iff_getElem]
    intro x y hx hy hxy
    rw [List.length_set] at hx hy
    have hxy' := hap x y hx hy hxy
    rw [List.getElem_set, List.getElem_set]
    by_cases ex : i = x
    · subst ex
      rw [if_pos rfl, if_neg (by omega)]
      have hs := hsh y hy (by omega)
      rw [hie] at hxy'
      exact .inr fun k hk => hxy'.r hs k hk.1
    · rw [if_neg ex]
      by_cases ey : i = y
      · subst ey
        rw [if_pos rfl]
        have hs := hsh x hx (by omega)
        rw [hie] at hxy'
        exact .inr fun k hk hk2 => hxy'.l hs k hk hk2.1
      · rw [if_neg ey]
        exact hxy'
theorem wl_thaw {wF : World} {F : Nat → Prop} {b : Nat} {cs : List Value} {T : TypeId} (i : Nat) (hi : hp[i]? = some (.ro F wF)) (hF : F b) (hb : wF.heap[b]? = some (.cells cs.toArray T (0, 0))) (k : WL P ops Q w0 N l env (.blk b cs T :: hp.set i (.ro (fun k => F k ∧ k ≠ b) wF))) (hn : (hp.eraseIdx i).all (fun x => !x.sh) = true := by rfl) : WL P ops Q w0 N l env hp := fun a w h => k a w ⟨h.size, h.defers, h.env, h.heap.thaw hi hF hb hn⟩
theorem wc_thaw {c : Code} {wF : World} {F : Nat → Prop} {b : Nat} {cs : List Value} {T : TypeId} (i : Nat) (hi : hp[i]? = some (.ro F wF)) (hF : F b) (hb : wF.heap[b]? = some (.cells cs.toArray T (0, 0))) (k : WC P c Q w0 N env (.blk b cs T :: hp.set i (.ro (fun k => F k ∧ k ≠ b) wF))) (hn : (hp.eraseIdx i).all (fun x => !x.sh) = true := by rfl) : WC P c Q w0 N env hp := fun a w h => k a w ⟨h.size, h.defers, h.env, h.heap.thaw hi hF hb hn⟩
theorem below_but {w1 w' : World} {n b : Nat} {hp : List Item} (h : HeapOK w1 hp w') (hm : (.ro (fun k => k < w1.heap.size ∧ k ≠ b) w1) ∈ hp) (hn : n ≤ b) (hn2 : n ≤ w1.heap.size) : Below n w1 w' :=
  ⟨h.os, h.tape, h.output, h.size, fun k hk => h.ok _ hm k ⟨Nat.lt_of_lt_of_le hk hn2, by omega⟩⟩
theorem fq_asg {E : Env} {W : World} {hl : ∀ p ∈ E, look p.1 env = some p.2} : FQ (AsgQ E W N) .normal W N env [old W] := fun a w h => ⟨rfl, h.size, h.defers, fun t v ht => h.env t v (hl (t, v) (look_mem ht)), h.heap⟩
end
end Go.Sx
end
section
namespace Go.Sx
open Go.RowKit
set_option linter.unusedVariables false
set_option linter.unusedSimpArgs false
section
variable {P : Program} {ops : Array Oper} {Q : Exit → Act → World → Prop} {w0 : World} {N : Fr} {l : List Oper} {env : Env} {hp : List Item} {o : Oper}
theorem q_indexB {T E : TypeId} {x y : Operand} {b o0 n sz off : Nat} {k : IntKind} {i : Int} (ho : o.op = .indexAddr T x y) (hx : evE x env = some (.pointer (some ⟨b, o0, none⟩))) (hy : evE y env = some (.int k i)) (hT : P.underlying T = some (.array n E)) (hs : P.sizeIs E = some sz) (h0 : 0 ≤ i) (h1 : i < n) (hoff : o0 + i.toNat * sz = off) : OpQ P o env w0 hp (.pointer (some ⟨b, off, none⟩)) := by
  subst hoff
  have := q_indexA (w0 := w0) (hp := hp) ho hx hy hT hs h0 h1
  rwa [addr_add] at this
theorem q_indexS {T E : TypeId} {x y : Operand} {b o0 n c sz off : Nat} {k : IntKind} {i : Int} (ho : o.op = .indexAddr T x y) (hx : evE x env = some (.slice (some ⟨b, o0, none⟩) n c)) (hy : evE y env = some (.int k i)) (hT : P.underlying T = some (.slice E)) (hs : P.sizeIs E = some sz) (h0 : 0 ≤ i) (h1 : i < n) (hoff : o0 + i.toNat * sz = off) : OpQ P o env w0 hp (.pointer (some ⟨b, off, none⟩)) := by
  subst hoff
  have := q_index (w0 := w0) (hp := hp) ho hx hy hT hs h0 h1
  rwa [addr_add] at this
theorem HeapOK.fresh {b : Nat} {cs : List Value} {T : TypeId} {R : List Item} {w : World} (h : HeapOK w0 (.blk b cs T :: R) w) (hm : old w0 ∈ R) : w0.heap.size ≤ b ∧ b < w.heap.size := by
  refine ⟨?_, h.bound _ List.mem_cons_self b rfl⟩
  rcases Nat.lt_or_ge b w0.heap.size with hb | hb
  · exact absurd (show (old w0).foot b from hb) (((List.pairwise_cons.1 h.apart).1 _ hm).l rfl b rfl)
  · exact hb
theorem cell_zero {w : World} {ad : Addr} {v : Value} (h : w.cell? ad = some v) : ∀ (j : Nat) (u : Value), [v][j]? = some u → w.cell? (ad.add j) = some u := by
  intro j u hu
  cases j with
  | zero => cases hu; rw [add_zero]; exact h
  | succ j => simp at hu
theorem Reads.at {ad : Addr} {cs : List Value} {j : Nat} {v : Value} (h : Reads w0 hp ad cs) (hj : cs[j]? = some v) : Reads w0 hp (ad.add j) [v] := fun w hw i u hu => by
  cases i with
  | zero => cases hu; rw [add_zero]; exact h w hw j v hj
  | succ i => simp at hu
theorem readsOwnN {i base E sz n c g j : Nat} {xs : List Value} {u : Value} (hi : hp[i]? = some (.own base E sz (.slice (some ⟨g, 0, none⟩) n c) n xs)) (hj : xs[j]? = some u) : Reads w0 hp ⟨g, j, none⟩ [u] := by
  have := (readsOwn (w0 := w0) hi).at hj
  rwa [addr_add, Nat.zero_add] at this
theorem wc_ownAt {c : Code} (i : Nat) {base E sz n c' : Nat} {A : Option Addr} {xs : List Value} (hi : hp[i]? = some (.own base E sz (.slice A n c') n xs)) (k : ∀ g, (0 < n → A = some ⟨g, 0, none⟩) → n ≤ c' → WC P c Q w0 N env hp) : WC P c Q w0 N env hp := by
  intro a w h
  have hown : w.ownsRow base E sz (.slice A n c') n xs := h.heap.get hi
  rcases hown.2 with ⟨e, e0⟩ | ⟨g, cap, cur, e, hg, hh, hn, r⟩
  · exact k 0 (fun h => by omega) (by cases e; omega) a w h
  · cases e; exact k g (fun _ => rfl) hn a w h
theorem om_alloc {T : TypeId} {cs : List Value} (ho : o.op = .alloc T) (hz : ((P.info? T).bind (·.zero)).map (·.cells) = some cs.toArray) : OpM P o env w0 hp (fun b : Nat => .pointer (some ⟨b, 0, none⟩)) (fun b => .blk b cs T) := by
  intro R a w he hh
  have hr : (execOp a.eval o).run P w = .ok (.value (.pointer (some ⟨w.heap.size, 0, none⟩))) (w.alloc (.cells cs.toArray T (0, 0))) := by
    cases hi : P.info? T with
    | none => rw [hi] at hz; cases hz
    | some i =>
      cases hz2 : i.zero with
      | none => rw [hi] at hz; simp [hz2] at hz
      | some z =>
        rw [hi] at hz
        simp only [hz2, Option.bind_some, Option.map_some, Option.some.injEq] at hz
        simp [execOp, ho, Instr.alloc, newVar, newRow, zeroValue, typeInfo, hi, hz2, hz, newObj, World.alloc_eq]
        rfl
  rw [hr]
  exact ⟨_, rfl, hh.allocRow cs T⟩
end
end Go.Sx
end
