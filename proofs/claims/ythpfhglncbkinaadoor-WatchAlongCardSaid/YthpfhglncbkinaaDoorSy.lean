/- Steps over a named state, more (no statement stands here). -/
import Derived.Test.YthpfhglncbkinaaDoorSx
import Derived.Scope
namespace Go.Sx
open Go.RowKit
set_option linter.unusedVariables false
set_option linter.unusedSimpArgs false
section
variable {P : Program} {ops : Array Oper} {Q : Exit → Act → World → Prop} {w0 : World} {N : Nat} {l : List Oper} {env : Env} {hp : List Item} {o : Oper}
theorem wc_scope {c : Code} (h : WC P c (Exit.noGoto Q) w0 N env hp) : WC P (.scope c) Q w0 N env hp := fun a w hh => wp_scope_straight (h a w hh)
theorem fq_scope {e : Exit} (he : e = .normal ∨ e = .ret) (h : FQ Q e w0 N env hp) : FQ (Exit.noGoto Q) e w0 N env hp := fun a w hh => by
  rcases he with rfl | rfl <;> exact h a w hh
theorem fq_scope_exit {id : Nat} (h : FQ Q (.exit id) w0 N env hp) : FQ (Exit.noGoto Q) (.exit id) w0 N env hp := fun a w hh => h a w hh
/-- What form a row of the call's own has. -/
theorem wl_ownForm {i base E sz n : Nat} {v : Value} {xs : List Value} (hi : hp[i]? = some (.own base E sz v n xs)) (k : ∀ A c, v = .slice A n c → n ≤ c → WL P ops Q w0 N l env hp) : WL P ops Q w0 N l env hp := by
  intro a w h
  have hown : w.ownsRow base E sz v n xs := h.heap.get hi
  rcases hown.2 with ⟨e, e0⟩ | ⟨g, cap, cur, e, hg, hh, hn, r⟩
  · exact k none 0 (by rw [e, e0]) (by omega) a w h
  · exact k _ cap e hn a w h
theorem wc_ownForm {c : Code} {i base E sz n : Nat} {v : Value} {xs : List Value} (hi : hp[i]? = some (.own base E sz v n xs)) (k : ∀ A c', v = .slice A n c' → n ≤ c' → WC P c Q w0 N env hp) : WC P c Q w0 N env hp := by
  intro a w h
  have hown : w.ownsRow base E sz v n xs := h.heap.get hi
  rcases hown.2 with ⟨e, e0⟩ | ⟨g, cap, cur, e, hg, hh, hn, r⟩
  · exact k none 0 (by rw [e, e0]) (by omega) a w h
  · exact k _ cap e hn a w h
/-- The cells of a row of the call's own. -/
theorem own_cell {w : World} {base E sz n c : Nat} {A : Option Addr} {xs : List Value} (h : w.ownsRow base E sz (.slice A n c) n xs) (hs : 0 < sz) : ∃ ad, (0 < n → A = some ad) ∧ ∀ j u, xs[j]? = some u → w.cell? (ad.add j) = some u := by
  rcases h.2 with ⟨e, e0⟩ | ⟨g, cap, cur, e, hg, hh, hn, hcap, hcs, htake⟩
  · refine ⟨⟨0, 0, none⟩, fun h => by omega, fun j u hu => ?_⟩
    have : xs = [] := List.eq_nil_of_length_eq_zero (by rw [h.1, e0, Nat.zero_mul])
    rw [this] at hu
    simp at hu
  · cases e
    refine ⟨⟨g, 0, none⟩, fun _ => rfl, fun j u hu => ?_⟩
    rw [addr_add, Nat.zero_add, cell_of_row w g j cur E (0, 0) hh]
    rw [← htake, List.getElem?_take] at hu
    split at hu
    · simpa using hu
    · cases hu
theorem own_le {w : World} {base E sz n : Nat} {v : Value} {xs : List Value} (h : w.ownsRow base E sz v n xs) : n ≤ maxLen := by
  rcases h.2 with ⟨e, e0⟩ | ⟨g, cap, cur, e, hg, hh, hn, hcap, hcs, htake⟩
  · rw [e0]; exact Nat.zero_le _
  · exact Nat.le_trans hn hcap
theorem wc_own {c : Code} {E sz : Nat} (k : WC P c Q w0 N env (.own 0 E sz (.slice none 0 0) 0 [] :: hp)) : WC P c Q w0 N env hp := fun a w h => k a w
  ⟨h.size, h.defers, h.env, ⟨h.heap.os, h.heap.tape, h.heap.output, h.heap.size, fun it hi => by
    rcases List.mem_cons.1 hi with rfl | hi
    · exact World.ownsRow_nil w 0 E sz
    · exact h.heap.ok it hi, fun it hi kk hk => by
    rcases List.mem_cons.1 hi with rfl | hi
    · cases hk
    · exact h.heap.bound it hi kk hk, List.pairwise_cons.2 ⟨fun it hi kk hk => (by cases hk), h.heap.apart⟩⟩⟩
theorem fq_hp {hp' : List Item} {e : Exit} (he : hp = hp') (k : FQ Q e w0 N env hp') : FQ Q e w0 N env hp := he ▸ k
theorem built_parts {E sz n : Nat} {ps : List (Nat × Value)} {cs : List Value} (hs : P.sizeIs E = some sz) (h0 : 0 < sz) (hz : ((P.info? E).bind (·.zero)).map (fun z => z.cells.size) = some sz) (h1 : ∀ p ∈ ps, p.2.cells.size = sz) (hidx : ps.map (·.1) = List.range n) (hn0 : 0 < n) (hsm : n * sz ≤ 2 ^ 24) (hc : ps.flatMap (fun p => p.2.cells.toList) = cs) : P.builtSlice E n ps = some cs.toArray := by
  have hlen : ps.length = n := by
    have := congrArg List.length hidx
    simpa using this
  have e : ps = ((ps.map (·.2)).zipIdx 0).map fun x => (x.2, x.1) := by
    apply List.ext_getElem?
    intro i
    have hi := congrArg (fun l => l[i]?) hidx
    simp only [List.getElem?_map] at hi
    simp only [List.getElem?_map, List.getElem?_zipIdx]
    cases hp : ps[i]? with
    | none => simp
    | some p =>
      rw [hp] at hi
      have hlt : i < ps.length := (List.getElem?_eq_some_iff.1 hp).1
      rw [List.getElem?_range (by omega)] at hi
      simp only [Option.map_some, Option.some.injEq] at hi
      simp only [Option.map_some, Nat.zero_add, Option.some.injEq]
      rw [← hi]
  rw [e]
  refine built_slice hs h0 hz (fun v hv => ?_) (by simp [hlen]) hn0 hsm ?_
  · obtain ⟨p, hp, rfl⟩ := List.mem_map.1 hv
    exact h1 p hp
  · rw [← hc, List.flatMap_map]
theorem built_one {E sz : Nat} {v : Value} {cs : List Value} (hs : P.sizeIs E = some sz) (h0 : 0 < sz) (hz : ((P.info? E).bind (·.zero)).map (fun z => z.cells.size) = some sz) (hsm : 1 * sz ≤ 2 ^ 24) (hc : v.cells = cs.toArray) (hl : cs.length = sz) : P.builtSlice E 1 [(0, v)] = some cs.toArray :=
  built_parts hs h0 hz (fun p hp => by obtain rfl := List.mem_singleton.1 hp; rw [hc]; simpa using hl) rfl (by decide) hsm (by simp [hc])
/-- Items picked, in any order. -/
theorem HeapOK.at {w : World} {hp' : List Item} (h : HeapOK w0 hp w) (is : List Nat) (hn : is.Nodup) (he : is.map (fun i => hp[i]?) = hp'.map some) : HeapOK w0 hp' w := by
  have hget : ∀ (a : Nat) (x : Item), hp'[a]? = some x → ∃ i : Nat, is[a]? = some i ∧ hp[i]? = some x := by
    intro a x hx
    have := congrArg (fun l => l[a]?) he
    simp only [List.getElem?_map, hx, Option.map_some] at this
    cases hi : is[a]? with
    | none => rw [hi] at this; cases this
    | some i =>
      rw [hi] at this
      exact ⟨i, rfl, by simpa using this⟩
  have hmem : ∀ it ∈ hp', it ∈ hp := by
    intro it hi
    obtain ⟨a, ha, rfl⟩ := List.mem_iff_getElem.1 hi
    obtain ⟨i, _, h2⟩ := hget a _ (List.getElem?_eq_getElem ha)
    exact List.mem_of_getElem? h2
  refine ⟨h.os, h.tape, h.output, h.size, fun it hi => h.ok it (hmem it hi), fun it hi => h.bound it (hmem it hi), ?_⟩
  rw [List.pairwise_iff_getElem]
  intro a b ha hb hab k hk hk2
  obtain ⟨i, hi1, hi2⟩ := hget a _ (List.getElem?_eq_getElem ha)
  obtain ⟨j, hj1, hj2⟩ := hget b _ (List.getElem?_eq_getElem hb)
  obtain ⟨hia, hi3⟩ := List.getElem?_eq_some_iff.1 hi1
  obtain ⟨hjb, hj3⟩ := List.getElem?_eq_some_iff.1 hj1
  have hne : i ≠ j := by
    intro e
    have h1 := List.pairwise_iff_getElem.1 hn a b hia hjb hab
    exact h1 (by rw [hi3, hj3, e])
  obtain ⟨hi4, hi5⟩ := List.getElem?_eq_some_iff.1 hi2
  obtain ⟨hj4, hj5⟩ := List.getElem?_eq_some_iff.1 hj2
  have hap := List.pairwise_iff_getElem.1 h.apart
  rcases Nat.lt_or_ge i j with hij | hij
  · have := hap i j hi4 hj4 hij k
    rw [hi5, hj5] at this
    exact this hk hk2
  · have := hap j i hj4 hi4 (by omega) k
    rw [hi5, hj5] at this
    exact this hk2 hk
theorem wl_at {hp' : List Item} (is : List Nat) (hn : is.Nodup) (he : is.map (fun i => hp[i]?) = hp'.map some) (k : WL P ops Q w0 N l env hp') : WL P ops Q w0 N l env hp := fun a w h => k a w ⟨h.size, h.defers, h.env, h.heap.at is hn he⟩
theorem HeapOK.ownNil {w : World} (h : HeapOK w0 hp w) (E sz : Nat) : HeapOK w0 (.own 0 E sz (.slice none 0 0) 0 [] :: hp) w :=
  ⟨h.os, h.tape, h.output, h.size, fun it hi => by
    rcases List.mem_cons.1 hi with rfl | hi
    · exact World.ownsRow_nil w 0 E sz
    · exact h.ok it hi, fun it hi kk hk => by
    rcases List.mem_cons.1 hi with rfl | hi
    · cases hk
    · exact h.bound it hi kk hk, List.pairwise_cons.2 ⟨fun it hi kk hk => (by cases hk), h.apart⟩⟩
/-- A row that was made anew. -/
theorem HeapOK.newOwn {w w1 : World} {E sz n : Nat} {v : Value} {xs : List Value} (h : HeapOK w0 hp w) (hb : Below w.heap.size w w1) (ho : w1.ownsRow w.heap.size E sz v n xs) : HeapOK w0 (.own 0 E sz v n xs :: hp) w1 := by
  have h1 := h.below hb
  have hfoot : ∀ k, v.ownBlock = some k → w.heap.size ≤ k ∧ k < w1.heap.size := by
    intro k hk
    refine ⟨?_, own_block_lt ho k hk⟩
    rcases ho.2 with ⟨rfl, _⟩ | ⟨g, cap, cur, rfl, hg, hh, r⟩
    · cases hk
    · cases hk; exact hg
  refine ⟨h1.os, h1.tape, h1.output, h1.size, ?_, ?_, ?_⟩
  · intro it hi
    rcases List.mem_cons.1 hi with rfl | hi
    · obtain ⟨a, b⟩ := ho
      refine ⟨a, ?_⟩
      rcases b with b | ⟨g, cap, cur, e, hg, r⟩
      · exact .inl b
      · exact .inr ⟨g, cap, cur, e, Nat.zero_le _, r⟩
    · exact h1.ok it hi
  · intro it hi k hk
    rcases List.mem_cons.1 hi with rfl | hi
    · exact (hfoot k hk).2
    · exact h1.bound it hi k hk
  · refine List.pairwise_cons.2 ⟨fun it hi k hk hk2 => ?_, h1.apart⟩
    have := (hfoot k hk).1
    have := h.bound it hi k hk2
    omega
theorem HeapOK.atT {w : World} {A A' R : List Item} (h : HeapOK w0 (A ++ R) w) (is : List Nat) (hn : is.Nodup) (he : is.map (fun i => A[i]?) = A'.map some) : HeapOK w0 (A' ++ R) w := by
  have hA := (h.sub (List.sublist_append_left A R)).at is hn he
  have hR := h.sub (List.sublist_append_right A R)
  have hmem : ∀ it ∈ A', it ∈ A := by
    intro it hi
    obtain ⟨a, ha, rfl⟩ := List.mem_iff_getElem.1 hi
    have := congrArg (fun l => l[a]?) he
    simp only [List.getElem?_map, List.getElem?_eq_getElem ha, Option.map_some] at this
    cases hq : is[a]? with
    | none => rw [hq] at this; cases this
    | some i => rw [hq] at this; exact List.mem_of_getElem? (Option.some.inj this)
  have hap := (List.pairwise_append.1 h.apart).2.2
  refine ⟨h.os, h.tape, h.output, h.size, fun it hi => ?_, fun it hi => ?_, List.pairwise_append.2 ⟨hA.apart, hR.apart, fun a ha b hb => hap a (hmem a ha) b hb⟩⟩
  · rcases List.mem_append.1 hi with hi | hi
    · exact hA.ok it hi
    · exact hR.ok it hi
  · rcases List.mem_append.1 hi with hi | hi
    · exact hA.bound it hi
    · exact hR.bound it hi
/-- An operation that is wanted, as if it weren't guarded. -/
theorem wl_unguard {j tj : Nat} {b : Bool} (hg : o.guard = some (j, b)) (hj : (ops[j]?).bind (·.dst) = some tj) (hb : look tj env = some (.bool b)) (k : WL P ops Q w0 N ({ o with guard := none } :: l) env hp) : WL P ops Q w0 N (o :: l) env hp := by
  intro a w h
  have hw : Region.wanted o (yielded ops a.tmps) = true := by
    rw [wanted_of (ops := ops) hg hj (h.env tj _ hb)]
    simp
  have := k a w h
  unfold wpList at this ⊢
  rw [if_pos (by simp [Region.wanted])] at this
  rw [if_pos hw]
  exact this
/-- A call behind which all that there is counts as old. -/
theorem wl_callB {ι : Type} {f d : Nat} {args : Array Operand} {ts : Array TypeId} {vs : List Value} (rv : ι → Value) (C : ι → World → Prop) (hm : old w0 ∈ hp) (ho : o.op = .call { callee := .value (.func f), args := args, argTypes := ts }) (hg : o.guard = none) (hd : o.dst = some d) (hN : d < N)
    (he : Ent P f) (ha : evL args.toList env = some vs) (hc : ∀ w, HeapOK w0 hp w → Calls P f vs.toArray w (fun e w' => ∃ i, C i w' ∧ e = .returned (rv i) ∧ Below w.heap.size w w'))
    (k : ∀ i w1, Below w0.heap.size w0 w1 → C i w1 → WL P ops Q w1 N l ((d, rv i) :: env) [old w1]) : WL P ops Q w0 N (o :: l) env hp := by
  intro a w h
  refine wpList_plain hg fun K hK => ?_
  unfold Oper.wp
  rw [call_func ho, evA_of h.env ha, he]
  rw [Oper.upon_enter]
  refine (hc w h.heap).mono ?_
  rintro e w' ⟨i, hC, rfl, hb⟩
  refine hK _ _ ?_
  rw [hd]
  have hB : Below w0.heap.size w0 w' := (h.heap.below hb).toBelow hm
  have hp1 := h.put d (rv i) hN (h.heap.below hb)
  exact k i w' hB hC _ _ ⟨hp1.size, hp1.defers, hp1.env, HeapOK.start w'⟩
theorem fq_ret0 {fn : Func} {R : Ending → World → Prop} (hr : fn.results = #[]) (h : ∀ w, HeapOK w0 hp w → R (.returned (.tuple #[])) w) : FQ (bodyPost P fn R) .ret w0 N env hp := fun a w hh =>
  bodyPost_ret (results_none hr a.tmps P w) hh.defers (h w hh.heap)
theorem fq_end0 {fn : Func} {R : Ending → World → Prop} (hr : fn.results = #[]) (h : ∀ w, HeapOK w0 hp w → R (.returned (.tuple #[])) w) : FQ (bodyPost P fn R) .normal w0 N env hp := fun a w hh =>
  bodyPost_end (results_none hr a.tmps P w) hh.defers (h w hh.heap)
end
end Go.Sx
