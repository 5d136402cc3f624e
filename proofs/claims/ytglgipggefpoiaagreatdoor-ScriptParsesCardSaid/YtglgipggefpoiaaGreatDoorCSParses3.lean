/- Texts of mine, put together (no statement stands here). -/
import Derived.Test.YtglgipggefpoiaaGreatDoorCSParses2
import Derived.Scope
section
namespace Go.Sx
open Go.RowKit
set_option linter.unusedVariables false
set_option linter.unusedSimpArgs false
section
variable {P : Program} {ops : Array Oper} {Q : Exit → Act → World → Prop} {w0 : World} {N : Fr} {l : List Oper} {env : Env} {hp : List Item} {o : Oper}
theorem wc_scope {c : Code} (h : WC P c (Exit.noGoto Q) w0 N env hp) : WC P (.scope c) Q w0 N env hp := fun a w hh => wp_scope_straight (h a w hh)
theorem fq_scope {e : Exit} (he : e = .normal ∨ e = .ret) (h : FQ Q e w0 N env hp) : FQ (Exit.noGoto Q) e w0 N env hp := fun a w hh => by
  rcases he with rfl | rfl <;> exact h a w hh
theorem wl_ownForm {i base E sz n : Nat} {v : Value} {xs : List Value} (hi : hp[i]? = some (.own base E sz v n xs)) (k : ∀ A c, v = .slice A n c → n ≤ c → WL P ops Q w0 N l env hp) : WL P ops Q w0 N l env hp := by
  intro a w h
  have hown : w.ownsRow base E sz v n xs := h.heap.get hi
  rcases hown.2 with ⟨e, e0⟩ | ⟨g, cap, cur, e, hg, hh, hn, r⟩
  · exact k none 0 (by rw [e, e0]) (by omega) a w h
  · exact k _ cap e hn a w h
theorem own_le {w : World} {base E sz n : Nat} {v : Value} {xs : List Value} (h : w.ownsRow base E sz v n xs) : n ≤ maxLen := by
  rcases h.2 with ⟨e, e0⟩ | ⟨g, cap, cur, e, hg, hh, hn, hcap, hcs, htake⟩
  · rw [e0]; exact Nat.zero_le _
  · exact Nat.le_trans hn hcap
theorem wc_own {c : Code} {E sz : Nat} (k : WC P c Q w0 N env (.own 0 E sz (.slice none 0 0) 0 [] :: hp)) : WC P c Q w0 N env hp := fun a w h => k a w
  ⟨h.size, h.defers, h.env, ⟨h.heap.os, h.heap.tape, h.heap.output, h.heap.size, fun it hi => by
    rcases List.mem_cons.1 hi with rfl | hi
    · exact World.ownsRow_nil w 0 E sz
    · exact h.heap.ok it hi, fun it hi kk hk => by
    rcases List.mem_cons.1 hi with rfl | hi
    · cases hk
    · exact h.heap.bound it hi kk hk, List.pairwise_cons.2 ⟨fun it hi => .inr fun kk hk => (by cases hk), h.heap.apart⟩⟩⟩
theorem built_parts {E sz n : Nat} {ps : List (Nat × Value)} {cs : List Value} (hs : P.sizeIs E = some sz) (h0 : 0 < sz) (hz : ((P.info? E).bind (·.zero)).map (fun z => z.cells.size) = some sz) (h1 : ∀ p ∈ ps, p.2.cells.size = sz) (hidx : ps.map (·.1) = List.range n) (hn0 : 0 < n) (hsm : n * sz ≤ 2 ^ 24) (hc : ps.flatMap (fun p => p.2.cells.toList) = cs) : P.builtSlice E n ps = some cs.toArray := by
  have hlen : ps.length = n := by
    have := congrArg List.length hidx
    simpa using this
  have e : ps = ((ps.map (·.2)).zipIdx 0).map fun x => (x.2, x.1) := by
    apply List.ext_getElem?
    intro i
    have hi := congrArg (fun l => l[i]?) hidx
    simp only [List.getElem?_map] at hi
    simp only [List.getElem?_map, List.getElem?_zipIdx]
    cases hp : ps[i]? with
    | none => simp
    | some p =>
      rw [hp] at hi
      have hlt : i < ps.length := (List.getElem?_eq_some_iff.1 hp).1
      rw [List.getElem?_range (by omega)] at hi
      simp only [Option.map_some, Option.some.injEq] at hi
      simp only [Option.map_some, Nat.zero_add, Option.some.injEq]
      rw [← hi]
  rw [e]
  refine built_slice hs h0 hz (fun v hv => ?_) (by simp [hlen]) hn0 hsm ?_
  · obtain ⟨p, hp, rfl⟩ := List.mem_map.1 hv
    exact h1 p hp
  · rw [← hc, List.flatMap_map]
theorem built_one {E sz : Nat} {v : Value} {cs : List Value} (hs : P.sizeIs E = some sz) (h0 : 0 < sz) (hz : ((P.info? E).bind (·.zero)).map (fun z => z.cells.size) = some sz) (hsm : 1 * sz ≤ 2 ^ 24) (hc : v.cells = cs.toArray) (hl : cs.length = sz) : P.builtSlice E 1 [(0, v)] = some cs.toArray :=
  built_parts hs h0 hz (fun p hp => by obtain rfl := List.mem_singleton.1 hp; rw [hc]; simpa using hl) rfl (by decide) hsm (by simp [hc])
theorem HeapOK.at {w : World} {hp' : List Item} (h : HeapOK w0 hp w) (is : List Nat) (hn : is.Nodup) (he : is.map (fun i => hp[i]?) = hp'.map some) : HeapOK w0 hp' w := by
  have hget : ∀ (a : Nat) (x : Item), hp'[a]? = some x → ∃ i : Nat, is[a]? = some i ∧ hp[i]? = some x := by
    intro a x hx
    have := congrArg (fun l => l[a]?) he
    simp only [List.getElem?_map, hx, Option.map_some] at this
    cases hi : is[a]? with
    | none => rw [hi] at this; cases this
    | some i =>
      rw [hi] at this
      exact ⟨i, rfl, by simpa using this⟩
  have hmem : ∀ it ∈ hp', it ∈ hp := by
    intro it hi
    obtain ⟨a, ha, rfl⟩ := List.mem_iff_getElem.1 hi
    obtain ⟨i, _, h2⟩ := hget a _ (List.getElem?_eq_getElem ha)
    exact List.mem_of_getElem? h2
  refine ⟨h.os, h.tape, h.output, h.size, fun it hi => h.ok it (hmem it hi), fun it hi => h.bound it (hmem it hi), ?_⟩
  rw [List.pairwise_iff_getElem]
  intro a b ha hb hab
  obtain ⟨i, hi1, hi2⟩ := hget a _ (List.getElem?_eq_getElem ha)
  obtain ⟨j, hj1, hj2⟩ := hget b _ (List.getElem?_eq_getElem hb)
  obtain ⟨hia, hi3⟩ := List.getElem?_eq_some_iff.1 hi1
  obtain ⟨hjb, hj3⟩ := List.getElem?_eq_some_iff.1 hj1
  have hne : i ≠ j := by
    intro e
    have h1 := List.pairwise_iff_getElem.1 hn a b hia hjb hab
    exact h1 (by rw [hi3, hj3, e])
  obtain ⟨hi4, hi5⟩ := List.getElem?_eq_some_iff.1 hi2
  obtain ⟨hj4, hj5⟩ := List.getElem?_eq_some_iff.1 hj2
  have hap := List.pairwise_iff_getElem.1 h.apart
  rcases Nat.lt_or_ge i j with hij | hij
  · have := hap i j hi4 hj4 hij
    rw [hi5, hj5] at this
    exact this
  · have := hap j i hj4 hi4 (by omega)
    rw [hi5, hj5] at this
    exact this.symm
end
end Go.Sx
end
