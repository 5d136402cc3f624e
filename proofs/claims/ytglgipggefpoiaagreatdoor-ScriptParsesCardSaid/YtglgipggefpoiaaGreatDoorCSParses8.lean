/- Texts of mine, put together (no statement stands here). -/
import Derived.Test.YtglgipggefpoiaaGreatDoorCSParses5
import Derived.Test.YtglgipggefpoiaaGreatDoorCSParses3
import Derived.Test.YtglgipggefpoiaaGreatDoorCSParses7
import Derived.Deep.Upon
import Derived.MapKept
import Derived.Lib.AtoiErrMem
import Derived.Lib.SplitLaws
import Derived.Maps.RangeRun
section
namespace Go.Sx
open Go.RowKit
set_option linter.unusedVariables false
set_option linter.unusedSimpArgs false
section
variable {P : Program} {ops : Array Oper} {Q : Exit → Act → World → Prop} {w0 : World} {N : Fr} {l : List Oper} {env : Env} {hp : List Item} {o : Oper}
theorem wl_callK {ι : Type} {f d : Nat} {args : Array Operand} {ts : Array TypeId} {vs : List Value} (rv : ι → Value) (C : ι → World → World → Prop) (ho : o.op = .call { callee := .value (.func f), args := args, argTypes := ts }) (hg : o.guard = none) (hd : o.dst = some d) (hN : d < N)
    (he : Ent P f) (ha : evL args.toList env = some vs) (hc : ∀ w, HeapOK w0 hp w → Calls P f vs.toArray w (fun e w' => ∃ i, C i w w' ∧ e = .returned (rv i) ∧ Below w.heap.size w w'))
    (k : ∀ i w w1, HeapOK w0 hp w → HeapOK w0 hp w1 → Below w.heap.size w w1 → C i w w1 → WL P ops Q w1 N l ((d, rv i) :: env) [old w1]) : WL P ops Q w0 N (o :: l) env hp := by
  intro a w h
  refine wpList_plain hg fun K hK => ?_
  unfold Oper.wp
  rw [call_func ho, evA_of h.env ha, he]
  rw [Oper.upon_enter]
  refine (hc w h.heap).mono ?_
  rintro e w' ⟨i, hC, rfl, hb⟩
  refine hK _ _ ?_
  rw [hd]
  have hp1 := h.put d (rv i) hN (h.heap.below hb)
  exact k i w w' h.heap (h.heap.below hb) hb hC _ _ ⟨hp1.size, hp1.defers, hp1.env, HeapOK.start w'⟩
theorem HeapOK.thaw {w wF : World} {i b : Nat} {F : Nat → Prop} {cs : List Value} {T : TypeId} (h : HeapOK w0 hp w) (hi : hp[i]? = some (.ro F wF)) (hF : F b) (hb : wF.heap[b]? = some (.cells cs.toArray T (0, 0))) (hn : (hp.eraseIdx i).all (fun x => !x.sh) = true) : HeapOK w0 (.blk b cs T :: hp.set i (.ro (fun k => F k ∧ k ≠ b) wF)) w := by
  obtain ⟨hil, hie⟩ := List.getElem?_eq_some_iff.1 hi
  have hit : Item.ro F wF ∈ hp := List.mem_of_getElem? hi
  have hap := List.pairwise_iff_getElem.1 h.apart
  have hsh : ∀ (j : Nat) (hj : j < hp.length), j ≠ i → (hp[j]).sh = false := by
    intro j hj hne
    have hm : hp[j] ∈ hp.eraseIdx i := by
      rw [List.mem_eraseIdx_iff_getElem]
      exact ⟨j, hj, hne, rfl⟩
    simpa using List.all_eq_true.1 hn _ hm
  have hmem : ∀ x ∈ hp.set i (.ro (fun k => F k ∧ k ≠ b) wF), x = .ro (fun k => F k ∧ k ≠ b) wF ∨ (x ∈ hp ∧ ¬ x.foot b) := by
    intro x hx
    obtain ⟨j, hj, rfl⟩ := List.mem_iff_getElem.1 hx
    rw [List.getElem_set]
    rw [List.length_set] at hj
    split
    · exact .inl rfl
    · rename_i hne
      refine .inr ⟨List.getElem_mem _, fun hf => ?_⟩
      have hs := hsh j hj (fun e => hne e.symm)
      rcases Nat.lt_or_ge i j with hij | hij
      · exact (hap i j hil hj hij).r hs b (by rw [hie]; exact hF) hf
      · exact (hap j i hj hil (by omega)).l hs b hf (by rw [hie]; exact hF)
  refine ⟨h.os, h.tape, h.output, h.size, fun x hx => ?_, fun x hx k hk => ?_, List.pairwise_cons.2 ⟨fun x hx => .inr fun k hk hk2 => ?_, ?_⟩⟩
  · rcases List.mem_cons.1 hx with rfl | hx
    · exact ((h.ok _ hit) b hF).trans hb
    · rcases hmem x hx with rfl | ⟨hx, _⟩
      · exact fun k hk => (h.ok _ hit) k hk.1
      · exact h.ok x hx
  · rcases List.mem_cons.1 hx with rfl | hx
    · have e : k = b := hk
      subst e
      exact h.bound _ hit k hF
    · rcases hmem x hx with rfl | ⟨hx, _⟩
      · exact h.bound _ hit k hk.1
      · exact h.bound x hx k hk
  · have e : k = b := hk
    subst e
    rcases hmem x hx with rfl | ⟨_, hx⟩
    · exact hk2.2 rfl
    · exact hx hk2
  · rw [List.pairwise_iff_getElem]
    intro x y hx hy hxy
    rw [List.length_set] at hx hy
    have hxy' := hap x y hx hy hxy
    rw [List.getElem_set, List.getElem_set]
    by_cases ex : i = x
    · subst ex
      rw [if_pos rfl, if_neg (by omega)]
      have hs := hsh y hy (by omega)
      rw [hie] at hxy'
      exact .inr fun k hk => hxy'.r hs k hk.1
    · rw [if_neg ex]
      by_cases ey : i = y
      · subst ey
        rw [if_pos rfl]
        have hs := hsh x hx (by omega)
        rw [hie] at hxy'
        exact .inr fun k hk hk2 => hxy'.l hs k hk hk2.1
      · rw [if_neg ey]
        exact hxy'
theorem wl_thaw {wF : World} {F : Nat → Prop} {b : Nat} {cs : List Value} {T : TypeId} (i : Nat) (hi : hp[i]? = some (.ro F wF)) (hF : F b) (hb : wF.heap[b]? = some (.cells cs.toArray T (0, 0))) (k : WL P ops Q w0 N l env (.blk b cs T :: hp.set i (.ro (fun k => F k ∧ k ≠ b) wF))) (hn : (hp.eraseIdx i).all (fun x => !x.sh) = true := by rfl) : WL P ops Q w0 N l env hp := fun a w h => k a w ⟨h.size, h.defers, h.env, h.heap.thaw hi hF hb hn⟩
theorem wc_thaw {c : Code} {wF : World} {F : Nat → Prop} {b : Nat} {cs : List Value} {T : TypeId} (i : Nat) (hi : hp[i]? = some (.ro F wF)) (hF : F b) (hb : wF.heap[b]? = some (.cells cs.toArray T (0, 0))) (k : WC P c Q w0 N env (.blk b cs T :: hp.set i (.ro (fun k => F k ∧ k ≠ b) wF))) (hn : (hp.eraseIdx i).all (fun x => !x.sh) = true := by rfl) : WC P c Q w0 N env hp := fun a w h => k a w ⟨h.size, h.defers, h.env, h.heap.thaw hi hF hb hn⟩
end
end Go.Sx
end
section
namespace Go.Sx
open Go.RowKit
set_option linter.unusedVariables false
set_option linter.unusedSimpArgs false
section
variable {P : Program} {ops : Array Oper} {Q : Exit → Act → World → Prop} {w0 : World} {N : Fr} {l : List Oper} {env : Env} {hp : List Item} {o : Oper}
theorem HeapOK.fresh {b : Nat} {cs : List Value} {T : TypeId} {R : List Item} {w : World} (h : HeapOK w0 (.blk b cs T :: R) w) (hm : old w0 ∈ R) : w0.heap.size ≤ b ∧ b < w.heap.size := by
  refine ⟨?_, h.bound _ List.mem_cons_self b rfl⟩
  rcases Nat.lt_or_ge b w0.heap.size with hb | hb
  · exact absurd (show (old w0).foot b from hb) (((List.pairwise_cons.1 h.apart).1 _ hm).l rfl b rfl)
  · exact hb
theorem cell_zero {w : World} {ad : Addr} {v : Value} (h : w.cell? ad = some v) : ∀ (j : Nat) (u : Value), [v][j]? = some u → w.cell? (ad.add j) = some u := by
  intro j u hu
  cases j with
  | zero => cases hu; rw [add_zero]; exact h
  | succ j => simp at hu
theorem Reads.at {ad : Addr} {cs : List Value} {j : Nat} {v : Value} (h : Reads w0 hp ad cs) (hj : cs[j]? = some v) : Reads w0 hp (ad.add j) [v] := fun w hw i u hu => by
  cases i with
  | zero => cases hu; rw [add_zero]; exact h w hw j v hj
  | succ i => simp at hu
end
end Go.Sx
end
section
namespace Go.Sx
open Go.RowKit
set_option linter.unusedVariables false
set_option linter.unusedSimpArgs false
section
variable {P : Program} {ops : Array Oper} {Q : Exit → Act → World → Prop} {w0 : World} {N : Fr} {l : List Oper} {env : Env} {hp : List Item} {o : Oper}
theorem OpQ.to {v v' : Value} (h : OpQ P o env w0 hp v) (e : v = v') : OpQ P o env w0 hp v' := e ▸ h
end
end Go.Sx
end
section
namespace Go.Sx
open Go.RowKit
set_option linter.unusedVariables false
set_option linter.unusedSimpArgs false
abbrev Gh := Option Addr × Nat
section
variable {P : Program} {ops : Array Oper} {Q : Exit → Act → World → Prop} {w0 : World} {N : Fr} {l : List Oper} {env : Env} {hp : List Item} {o : Oper} {ny : Nat}
theorem ChainG.mk {m : Nat} {TL : List (Nat × ((Nat → Gh) → List Item))} {i : Nat} {E Ef : (Nat → Gh) → Env} {S : List (Sp Gh)} {d : Nat} {it : (Nat → Gh) → Nat → Item} (vb : Nat → Value) (D : List Nat) (hq : ∀ X, OpM (ι := Nat) P o (E X) w0 (hp.drop ny) vb (it X)) (hg : o.guard = none) (hd : o.dst = some d) (ht : ∀ X, tk TL i X = [it X (X i).2]) (hc : ∀ X x, it (gset X i x) = it X) (hl : LocG i D (fun X => vb (X i).2) (fun X => [it X (X i).2]))
    (k : ChainG P w0 hp m ny ops TL (i + 1) l (fun X => (d, vb (X i).2) :: E X) S Ef) : ChainG P w0 hp m ny ops TL i (o :: l) E (⟨some d, fun X => vb (X i).2, [], [], D⟩ :: S) Ef :=
  .ope (fun X => vb (X i).2) [] D (fun X => by
    have h := (hq X).gmap (ι := Gh) (·.2) (fun k => (none, k)) (fun _ => rfl)
    simp only [ht, hc, gset_self]
    exact h) hg hd (fun X X' h1 h2 => ⟨(hl X X' h1 h2).1, by rw [ht, ht]; exact (hl X X' h1 h2).2⟩) k
theorem ChainG.mkG {ι : Type} [Nonempty ι] {m : Nat} {TL : List (Nat × ((Nat → ι) → List Item))} {i : Nat} {E Ef : (Nat → ι) → Env} {S : List (Sp ι)} {d : Nat} {it : (Nat → ι) → Nat → Item} (f : ι → Nat) (g : Nat → ι) (hfg : ∀ k, f (g k) = k) (vb : Nat → Value) (D : List Nat) (hq : ∀ X, OpM (ι := Nat) P o (E X) w0 (hp.drop ny) vb (it X)) (hg : o.guard = none) (hd : o.dst = some d) (ht : ∀ X, tk TL i X = [it X (f (X i))]) (hc : ∀ X x, it (gset X i x) = it X) (hl : LocG i D (fun X => vb (f (X i))) (fun X => [it X (f (X i))]))
    (k : ChainG P w0 hp m ny ops TL (i + 1) l (fun X => (d, vb (f (X i))) :: E X) S Ef) : ChainG P w0 hp m ny ops TL i (o :: l) E (⟨some d, fun X => vb (f (X i)), [], [], D⟩ :: S) Ef :=
  .ope (fun X => vb (f (X i))) [] D (fun X => by
    have h := (hq X).gmap (ι := ι) f g hfg
    simp only [ht, hc, gset_self]
    exact h) hg hd (fun X X' h1 h2 => ⟨(hl X X' h1 h2).1, by rw [ht, ht]; exact (hl X X' h1 h2).2⟩) k
theorem HeapOK.frame {w : World} {X R : List Item} (h : HeapOK w0 (X ++ (R ++ hp)) w) : HeapOK w0 hp w := h.sub ((List.sublist_append_right _ _).trans (List.sublist_append_right _ _))
theorem oe_call {ι : Type} {f : Nat} {args : Array Operand} {ts : Array TypeId} {vs : List Value} {X : List Item} {v : ι → Value} {X' : ι → List Item} (ho : o.op = .call { callee := .value (.func f), args := args, argTypes := ts }) (he : Ent P f) (ha : evL args.toList env = some vs)
    (hc : ∀ R w, HeapOK w0 (X ++ (R ++ hp)) w → Calls P f vs.toArray w (fun e w' => ∃ x, e = .returned (v x) ∧ HeapOK w0 (X' x ++ (R ++ hp)) w')) : OpE P o env w0 hp X v X' := by
  intro R a w hev hh
  rw [call_func ho, evA_of hev ha, he]
  exact hc R w hh
theorem OpE.less {ι : Type} {X : List Item} {v : ι → Value} {X' X2 : ι → List Item} (h : OpE P o env w0 hp X v X') (hs : ∀ x, (X2 x).Sublist (X' x)) : OpE P o env w0 hp X v X2 := by
  intro R a w he hh
  have := h R a w he hh
  generalize (execOp a.eval o).run P w = r at this
  cases r with
  | halt x w' => exact this.elim
  | ok n w' =>
    cases n <;> try exact this.elim
    · obtain ⟨x, h1, h2⟩ := this
      exact ⟨x, h1, h2.sub (List.Sublist.append_right (hs x) _)⟩
    · obtain ⟨x, h1, h2⟩ := this
      exact ⟨x, h1, h2.sub (List.Sublist.append_right (hs x) _)⟩
    · exact Calls.mono this (fun e w'' ⟨x, h1, h2⟩ => ⟨x, h1, h2.sub (List.Sublist.append_right (hs x) _)⟩)
theorem oe_appendR {s x : Operand} {T E sz by_ i m c n : Nat} {v : Value} {xs news : List Value} {A : Option Addr} {X : List Item} (ho : o.op = .call { callee := .builtin .append, args := #[s, x], argTypes := #[T, T] })
    (hT : P.underlying T = some (.slice E)) (hE : (P.info? E).map (fun i => (i.size, i.bytes, (i.zero.map (fun z => z.cells.size)).getD 0)) = some (sz, by_, sz)) (hsz : 0 < sz)
    (hs : evE s env = some v) (hx : evE x env = some (.slice A m c)) (hi : X[i]? = some (.own 0 E sz v n xs)) (hA : ∀ R w, HeapOK w0 (X ++ (R ++ hp)) w → 0 < m → ∃ ad, A = some ad ∧ ∀ j u, news[j]? = some u → w.cell? (ad.add j) = some u) (hl : news.length = m * sz) (h1 : ∀ u ∈ news, u.oneCell' = true)
    (hmax : n + m ≤ maxLen) (hby : (n + m) * by_ ≤ 140737488355328) :
    OpE (ι := Gh) P o env w0 hp X (fun i => .slice i.1 (n + m) i.2) (fun q => X.set i (.own 0 E sz (.slice q.1 (n + m) q.2) (n + m) (xs ++ news))) := by
  intro R a w he hh
  have hil := (List.getElem?_eq_some_iff.1 hi).1
  have hi2 : (X ++ (R ++ hp))[i]? = some (.own 0 E sz v n xs) := by rw [List.getElem?_append_left hil]; exact hi
  have hown : w.ownsRow 0 E sz v n xs := hh.get hi2
  have hform : ∀ {w : World} {v : Value} {n : Nat} {xs : List Value}, w.ownsRow 0 E sz v n xs → ∃ q : Gh, v = .slice q.1 n q.2 := by
    intro w v n xs h
    rcases h.2 with ⟨e, e0⟩ | ⟨g, cap, cur, e, hg, hh, hn, r⟩
    · exact ⟨(none, 0), by rw [e, e0]⟩
    · exact ⟨(_, cap), e⟩
  rcases Nat.eq_zero_or_pos m with h0 | h0
  · subst h0
    have hnil : news = [] := List.eq_nil_of_length_eq_zero (by rw [hl, Nat.zero_mul])
    subst hnil
    cases hI : P.info? E with
    | none => rw [hI] at hE; cases hE
    | some i0 =>
      have hform' : ∃ B c2, v = .slice B n c2 ∧ n ≤ c2 := by
        rcases hown.2 with ⟨e, e0⟩ | ⟨g, cap, cur, e, hg, hh, hn, r⟩
        · exact ⟨none, 0, by rw [e, e0], by omega⟩
        · exact ⟨_, cap, e, hn⟩
      obtain ⟨B, c2, rfl, hle⟩ := hform'
      have hr := run_append_nothing (P := P) w T T o.type E i0 hT hI B n c2 hle (.slice A 0 c) (by
        refine ⟨.inl ⟨E, hT⟩, fun w' => ?_, ?_, ?_, by simp, by simp⟩ <;> cases A <;> simp [Builtin.lenOf, Builtin.firstCells, go_sem, loadCells])
      unfold execOp
      simp only [ho, resolve, invoke, builtin, Sem.run_bind, Sem.run_pure, Result.andThen_ok, List.map_toArray, List.map_cons, List.map_nil, ev_of he hs, ev_of he hx, hr]
      refine ⟨(B, c2), rfl, ?_⟩
      have : X.set i (.own 0 E sz (.slice B (n + 0) c2) (n + 0) (xs ++ [])) = X := by
        rw [List.append_nil, Nat.add_zero]
        obtain ⟨hil, hie⟩ := List.getElem?_eq_some_iff.1 hi
        rw [← hie]
        exact List.set_getElem_self hil
      show HeapOK w0 (X.set i (.own 0 E sz (.slice B (n + 0) c2) (n + 0) (xs ++ [])) ++ (R ++ hp)) w
      rw [this]
      exact hh
  · obtain ⟨ad, rfl, hc⟩ := hA R w hh h0
    cases hI : P.info? E with
    | none => rw [hI] at hE; cases hE
    | some i0 =>
      rw [hI] at hE
      simp only [Option.map_some, Option.some.injEq, Prod.mk.injEq] at hE
      obtain ⟨e1, e2, e3⟩ := hE
      cases hz : i0.zero with
      | none => rw [hz] at e3; simp at e3; omega
      | some z =>
        rw [hz] at e3
        simp only [Option.map_some, Option.getD_some] at e3
        obtain ⟨v', w', hr, hown', hgr, hnil, hpl⟩ := run_append_own_at (P := P) w 0 T o.type E i0 z sz by_ hT hI hz e1 e2 e3 hsz v n xs hown ad m c news hl hc h1 hmax hby (Nat.zero_le _)
        unfold execOp
        simp only [ho, resolve, invoke, builtin, Sem.run_bind, Sem.run_pure, Result.andThen_ok, List.map_toArray, List.map_cons, List.map_nil, ev_of he hs, ev_of he hx, hr]
        obtain ⟨q, rfl⟩ := hform hown'
        refine ⟨q, rfl, ?_⟩
        have hU := hh.updAt hi2 (y := .own 0 E sz (.slice q.1 (n + m) q.2) (n + m) (xs ++ news)) hgr.os hgr.tape hgr.output hgr.size (fun k hk hnf => hgr.block k hk (fun e => hnf e.symm)) hown' (fun k hk => by
          have hlt := own_block_lt hown' k hk
          refine ⟨?_, hlt⟩
          have hk' : (Value.slice q.1 (n + m) q.2).ownBlock = some k := hk
          rcases hpl with hpl | hpl
          · exact .inl (show v.ownBlock = some k from hpl ▸ hk')
          · rw [hk'] at hpl
            cases hpl
            exact .inr (Nat.le_refl _))
        rw [List.set_append_left _ _ hil] at hU
        exact hU
end
end Go.Sx
end
section
namespace Go.Sx
open Go.RowKit
set_option linter.unusedVariables false
set_option linter.unusedSimpArgs false
section
variable {P : Program} {ops : Array Oper} {Q : Exit → Act → World → Prop} {w0 : World} {N : Fr} {l : List Oper} {env : Env} {hp : List Item} {o : Oper}
theorem HeapOK.lift {w w' : World} {res : List Item} (hw : HeapOK w0 hp w) (h : HeapOK w (res ++ [old w]) w') (hs : res.all (fun x => !x.sh) = true := by rfl) : HeapOK w0 (res ++ hp) w' := by
  have hb := h.toBelow (List.mem_append_right _ List.mem_cons_self)
  have h1 := hw.below hb
  have hap := List.pairwise_append.1 h.apart
  have far : ∀ x ∈ res, ∀ k, x.foot k → w.heap.size ≤ k := fun x hx k hk => by
    have hxs : x.sh = false := by simpa using List.all_eq_true.1 hs x hx
    rcases Nat.lt_or_ge k w.heap.size with h2 | h2
    · exact absurd (show (old w).foot k from h2) ((hap.2.2 x hx _ List.mem_cons_self).l hxs k hk)
    · exact h2
  refine ⟨h1.os, h1.tape, h1.output, h1.size, fun x hx => ?_, fun x hx => ?_, List.pairwise_append.2 ⟨hap.1, h1.apart, fun x hx y hy => .inr fun k hk hk2 => ?_⟩⟩
  · rcases List.mem_append.1 hx with hx | hx
    · exact h.ok x (List.mem_append_left _ hx)
    · exact h1.ok x hx
  · rcases List.mem_append.1 hx with hx | hx
    · exact h.bound x (List.mem_append_left _ hx)
    · exact h1.bound x hx
  · have := far x hx k hk
    have := hw.bound y hy k hk2
    omega
theorem HeapOK.lift1 {w w' : World} {x : Item} (hw : HeapOK w0 hp w) (h : HeapOK w [x, old w] w') (hs : x.sh = false := by rfl) : HeapOK w0 (x :: hp) w' := HeapOK.lift (res := [x]) hw h (by simp [hs])
theorem q_eqlStr {op : BinOp} {t u : TypeId} {x y : Operand} {a b : ByteArray} {c : Bool} (ho : o.op = .binOp op t x y u) (hop : op = .eql ∧ (a.toList == b.toList) = c ∨ op = .neq ∧ (!(a.toList == b.toList)) = c) (hx : evE x env = some (.string a)) (hy : evE y env = some (.string b)) (hT : ∀ w : World, (eqGuard op t x y (.string a) (.string b)).run P w = .ok () w) : OpQ P o env w0 hp (.bool c) :=
  q_eq ho (hop.elim (fun h => .inl h.1) (fun h => .inr h.1)) hx hy fun w => ⟨hT w, by
    rcases hop with ⟨rfl, rfl⟩ | ⟨rfl, rfl⟩ <;> rfl⟩
end
end Go.Sx
end
section
namespace Go.Sx
open Go.RowKit
set_option linter.unusedVariables false
set_option linter.unusedSimpArgs false
def ents (k : IntKind) : Nat → List (Int × Value) → List MapEntry
  | _, [] => []
  | i, (y, u) :: r => ⟨.int k y, u, i⟩ :: ents k (i + 1) r
def mobj (k : IntKind) (ms : List (Int × Value)) : Obj := .map (ents k 0 ms).toArray ms.length
def mfind : List (Int × Value) → Int → Option Value
  | [], _ => none
  | (y, u) :: r, x => if x = y then some u else mfind r x
def mput : List (Int × Value) → Int → Value → List (Int × Value)
  | [], x, v => [(x, v)]
  | (y, u) :: r, x, v => if x = y then (x, v) :: r else (y, u) :: mput r x v
def mloc : List (Int × Value) → Int → Nat → Option (Nat × Value)
  | [], _, _ => none
  | (y, u) :: r, x, j => if x = y then some (j, u) else mloc r x (j + 1)
theorem mloc_find (ms : List (Int × Value)) (x : Int) : ∀ j, (mloc ms x j).map (·.2) = mfind ms x := by
  induction ms with
  | nil => intro j; rfl
  | cons p r ih =>
    intro j
    obtain ⟨z, u⟩ := p
    unfold mloc mfind
    by_cases h : x = z
    · rw [if_pos h, if_pos h]; rfl
    · rw [if_neg h, if_neg h]; exact ih _
theorem findNow_ents (k : IntKind) (x : Int) : ∀ (ms : List (Int × Value)) (i j : Nat), Instr.findNow (.int k) (.int k x) (ents k i ms) j = some (mloc ms x j)
  | [], _, _ => rfl
  | (y, u) :: r, i, j => by
    unfold ents Instr.findNow mloc
    by_cases h : x = y
    · simp [Instr.sameNow, h]
    · have hb : (x == y) = false := by simpa using h
      simp [Instr.sameNow, h, hb, findNow_ents k x r]
theorem ents_none (k : IntKind) (x : Int) (v : Value) : ∀ (ms : List (Int × Value)) (i j : Nat), mloc ms x j = none → ents k i (mput ms x v) = ents k i ms ++ [⟨.int k x, v, i + ms.length⟩] ∧ (mput ms x v).length = ms.length + 1
  | [], i, j, _ => ⟨rfl, rfl⟩
  | (y, u) :: r, i, j, h => by
    unfold mloc at h
    by_cases e : x = y
    · rw [if_pos e] at h; cases h
    · rw [if_neg e] at h
      have := ents_none k x v r (i + 1) (j + 1) h
      unfold mput
      rw [if_neg e]
      refine ⟨?_, by simp [this.2]⟩
      unfold ents
      rw [this.1]
      simp [Nat.add_assoc, Nat.add_comm 1]
theorem ents_some (k : IntKind) (x : Int) (v : Value) : ∀ (ms : List (Int × Value)) (i j n : Nat) (u : Value), mloc ms x j = some (n, u) → ∃ m, n = j + m ∧ (∃ b, (ents k i ms)[m]? = some ⟨.int k x, u, b⟩) ∧ ents k i (mput ms x v) = (ents k i ms).modify m (fun e => { e with key := .int k x, val := v }) ∧ (mput ms x v).length = ms.length
  | [], i, j, n, u, h => by cases h
  | (y, z) :: r, i, j, n, u, h => by
    unfold mloc at h
    unfold mput
    by_cases e : x = y
    · subst e
      rw [if_pos rfl] at h ⊢
      cases h
      exact ⟨0, rfl, ⟨_, rfl⟩, rfl, rfl⟩
    · rw [if_neg e] at h ⊢
      obtain ⟨m, h1, h2, h3, h4⟩ := ents_some k x v r (i + 1) (j + 1) n u h
      refine ⟨m + 1, by omega, ?_, ?_, by simp [h4]⟩
      · unfold ents; exact h2
      · unfold ents; rw [h3]; rfl
section
variable {P : Program} {ops : Array Oper} {Q : Exit → Act → World → Prop} {w0 : World} {N : Fr} {l : List Oper} {env : Env} {hp : List Item} {o : Oper}
theorem wl_makeMap {T d : Nat} (k : IntKind) (ho : o.op = .makeMap T none) (hg : o.guard = none) (hd : o.dst = some d) (hN : d < N) (kk : ∀ b, WL P ops Q w0 N l ((d, .map (some b)) :: env) (.obj b (mobj k []) :: hp)) : WL P ops Q w0 N (o :: l) env hp := by
  intro a w h
  refine wpList_plain hg fun K hK => ?_
  unfold Oper.wp
  have hr : (execOp a.eval o).run P w = .ok (.value (.map (some w.heap.size))) (w.alloc (mobj k [])) := by
    simp [execOp, ho, Instr.makeMap]
    rfl
  rw [hr]
  refine hK _ _ ?_
  rw [hd]
  exact kk _ _ _ (h.put d _ hN (h.heap.alloc (mobj k [])))
theorem run_checkKey {t : TypeId} {k : IntKind} {x : Int} {b : Bool} (ht : P.underlying t = some (.int k)) (w : World) : (Instr.checkKey b 10000 t (.int k x)).run P w = .ok () w := by
  unfold Instr.checkKey
  rw [Sem.run_bind, run_underlying ht]
  rfl
theorem q_lookupOk {T K E : TypeId} {x y : Operand} {i b : Nat} {k : IntKind} {n : Int} {ms : List (Int × Value)} {z v : Value} {c : Bool} (ho : o.op = .lookup T x y true) (hx : evE x env = some (.map (some b))) (hy : evE y env = some (.int k n)) (hT : P.underlying T = some (.map K E)) (hK : P.underlying K = some (.int k)) (hz : (P.info? E).bind (·.zero) = some z) (hi : hp[i]? = some (.obj b (mobj k ms))) (hv : (mfind ms n).getD z = v) (hc : (mfind ms n).isSome = c) : OpQ P o env w0 hp (.tuple #[v, .bool c]) := q_run fun a w he hh => by
  subst hv hc
  have hb : w.heap[b]? = some (mobj k ms) := hh.get hi
  have hf : (Instr.findKey K (.int k n) (ents k 0 ms).toArray.toList).run P w = .ok (mloc ms n 0) w := MapKept.run_findKey hK (findNow_ents k n ms 0 0)
  have hzr : (zeroValue E).run P w = .ok z w := by
    cases hI : P.info? E with
    | none => rw [hI] at hz; cases hz
    | some inf => rw [hI] at hz; simp only [Option.bind_some] at hz; simp [zeroValue, typeInfo, hI, hz]
  have hl := mloc_find ms n 0
  unfold execOp
  simp only [ho, ev_of he hx, ev_of he hy, Instr.lookup, Sem.run_bind, run_underlying hT, Result.andThen_ok, MapKept.run_getObj_map hb, Sem.run_pure, run_checkKey hK, hf]
  cases hm : mloc ms n 0 with
  | none => rw [hm] at hl; rw [← hl]; simp [hzr]
  | some q => rw [hm] at hl; rw [← hl]; simp
end
end Go.Sx
end
section
namespace Go.Sx
open Go.RowKit
set_option linter.unusedVariables false
set_option linter.unusedSimpArgs false
def Blk (w : World) (b : Nat) (cs : List Value) (T : TypeId) : Prop := w.heap[b]? = some (.cells cs.toArray T (0, 0))
theorem Blk.below {w w' : World} {b : Nat} {cs : List Value} {T : TypeId} (h : Blk w b cs T) (hb : Below w.heap.size w w') : Blk w' b cs T := (hb.block b (Array.getElem?_eq_some_iff.1 h).1).trans h
theorem _root_.Go.RowKit.Below.next {w w1 w2 : World} (h : Below w.heap.size w w1) (h2 : Below w1.heap.size w1 w2) : Below w.heap.size w w2 := h.trans (h2.mono h.size)
def CellsAt (w : World) (ad : Addr) (cs : List Value) : Prop := ∀ (j : Nat) (u : Value), cs[j]? = some u → w.cell? (ad.add j) = some u
theorem CellsAt.below {w w' : World} {ad : Addr} {cs : List Value} (h : CellsAt w ad cs) (hb : Below w.heap.size w w') : CellsAt w' ad cs := fun j u hu => by
  have hc := h j u hu
  rw [hb.cell (p := ad.add j) (block_lt_of_cell hc)]
  exact hc
theorem CellsAt.one {w : World} {ad : Addr} {k j : Nat} {cs : List Value} {u : Value} (h : CellsAt w (ad.add k) cs) (hu : cs[j]? = some u) : w.cell? (ad.add (k + j)) = some u := by
  have := h j u hu
  rwa [add_add] at this
section
variable {P : Program} {ops : Array Oper} {Q : Exit → Act → World → Prop} {w0 : World} {N : Fr} {l : List Oper} {env : Env} {hp : List Item} {o : Oper}
theorem reads_blk {b off : Nat} {cs : List Value} {T : TypeId} {v : Value} (hm : old w0 ∈ hp) (h : Blk w0 b cs T) (hc : cs[off]? = some v) : Reads w0 hp ⟨b, off, none⟩ [v] := reads_old hm (cell_zero (by rw [cell_of_row w0 b off cs.toArray T (0, 0) h]; simpa using hc))
theorem reads_blkA {b : Nat} {cs : List Value} {T : TypeId} (hm : old w0 ∈ hp) (h : Blk w0 b cs T) : Reads w0 hp ⟨b, 0, none⟩ cs := reads_old hm (fun j u hu => by
  rw [addr_add, cell_of_row w0 b (0 + j) cs.toArray T (0, 0) h, Nat.zero_add]
  simpa using hu)
theorem HeapOK.rebase' {wg w : World} (hb : Below w0.heap.size w0 wg) (h : HeapOK w0 [old wg] w) : HeapOK wg [old wg] w :=
  ⟨h.os.trans hb.os.symm, h.tape.trans hb.tape.symm, h.output.trans hb.output.symm, by
    rcases Nat.lt_or_ge w.heap.size wg.heap.size with h1 | h1
    · have := h.bound _ List.mem_cons_self w.heap.size h1
      omega
    · exact h1, h.ok, h.bound, h.apart⟩
theorem wc_rebase {c : Code} {wg : World} (hb : Below w0.heap.size w0 wg) (k : WC P c Q wg N env [old wg]) : WC P c Q w0 N env [old wg] := fun a w h => k a w ⟨h.size, h.defers, h.env, h.heap.rebase' hb⟩
theorem wc_ground {c : Code} (k : ∀ wn, HeapOK w0 hp wn → WC P c Q wn N env [old wn]) : WC P c Q w0 N env hp := fun a w h => k w h.heap a w ⟨h.size, h.defers, h.env, HeapOK.start w⟩
theorem wl_ground (k : ∀ wn, HeapOK w0 hp wn → WL P ops Q wn N l env [old wn]) : WL P ops Q w0 N l env hp := fun a w h => k w h.heap a w ⟨h.size, h.defers, h.env, HeapOK.start w⟩
theorem fq_ground {e : Exit} (k : ∀ wn, HeapOK w0 hp wn → FQ Q e wn N env [old wn]) : FQ Q e w0 N env hp := fun a w h => k w h.heap a w ⟨h.size, h.defers, h.env, HeapOK.start w⟩
theorem fq_nextW {wb : World} {ι : Type} {E : ι → Env} {J : ι → List Item} {C : ι → Prop} {μ : ι → Nat} {i : ι} (j : ι) (hb : Below w0.heap.size w0 wb) (hJ : J j = [old wb]) (hm : old wb ∈ hp) (hC : C j) (hμ : μ j < μ i) (hl : ∀ p ∈ E j, look p.1 env = some p.2) : FQ (Exit.then (Next w0 N E J C μ i) Q) .normal wb N env hp := fun a w hh => by
  refine ⟨j, hC, hμ, hh.size, hh.defers, fun t v ht => hh.env t v (hl (t, v) (look_mem ht)), ?_⟩
  rw [hJ]
  have h1 := hh.heap.toBelow hm
  refine ⟨h1.os.trans hb.os, h1.tape.trans hb.tape, h1.output.trans hb.output, Nat.le_trans hb.size h1.size, fun it hi => ?_, fun it hi k hk => ?_, List.pairwise_singleton _ _⟩
  · obtain rfl := List.mem_singleton.1 hi
    exact h1.block
  · obtain rfl := List.mem_singleton.1 hi
    exact Nat.lt_of_lt_of_le hk h1.size
theorem wc_loopW {ι : Type} {c : Code} (E : ι → Env) (W : ι → World) (C : ι → Prop) (μ : ι → Nat) (i0 : ι) (hW : W i0 = w0) (hC : C i0) (hm : old w0 ∈ hp) (h0 : ∀ p ∈ E i0, look p.1 env = some p.2) (hb : ∀ i, C i → Below w0.heap.size w0 (W i))
    (round : ∀ i, C i → WC P c (Exit.then (Next w0 N E (fun i => [old (W i)]) C μ i) Q) (W i) N (E i) [old (W i)]) : WC P (.loop c) Q w0 N env hp :=
  wc_loop E (fun i => [old (W i)]) C μ i0 hC ⟨h0, by rw [hW]; exact List.singleton_sublist.2 hm⟩ (fun i hi => wc_rebase (hb i hi) (round i hi))
end
end Go.Sx
end
section
namespace Go.Sx
open Go.RowKit Go.Proofs.YtglgipggefpoiaaGreatDoorW.PrintWords
set_option linter.unusedVariables false
set_option linter.unusedSimpArgs false
section
variable {P : Program} {ops : Array Oper} {Q : Exit → Act → World → Prop} {w0 : World} {N : Fr} {l : List Oper} {env : Env} {hp : List Item} {o : Oper}
theorem q_bytesStr {s t e : TypeId} {x : Operand} {A : Option Addr} {n c : Nat} {xs : List Int} (ho : o.op = .convert s t x) (hx : evE x env = some (.slice A n c)) (hs : P.underlying s = some (.slice e)) (he : P.underlying e = some (.int .u8)) (ht : P.underlying t = some .string) (h : ∀ w, HeapOK w0 hp w → (Kd.int .u8).C w A n xs) : OpQ P o env w0 hp (.string (strOfNums xs)) := q_run fun a w hev hh => by
  unfold execOp
  simp only [ho, ev_of hev hx, Sem.run_bind, Kd.C_string hs he ht (h w hh)]
  rfl
end
end Go.Sx
end
section
namespace Go.Sx
open Go.RowKit Go.Proofs.YtglgipggefpoiaaGreatDoorW.PrintWords
set_option linter.unusedVariables false
set_option linter.unusedSimpArgs false
section
variable {P : Program} {ops : Array Oper} {Q : Exit → Act → World → Prop} {w0 : World} {N : Fr} {l : List Oper} {env : Env} {hp : List Item} {o : Oper}
theorem q_eqAgg {op : BinOp} {t u : TypeId} {x y : Operand} {p q : Array Value} {c : Bool} (ho : o.op = .binOp op t x y u) (hop : op = .eql ∨ op = .neq) (hx : evE x env = some (.agg p)) (hy : evE y env = some (.agg q)) (hm : P.eqGuardType P.depth t = false)
    (hr : ∀ w : World, (Op.equal t (.agg p) (.agg q)).run P w = .ok c w) : OpQ P o env w0 hp (.bool (bif op matches .eql then c else !c)) :=
  q_eq ho hop hx hy fun w => ⟨run_eqGuard_agg w op t x y p q hm, by
    rcases hop with rfl | rfl
    · show (do pure (Value.bool (← Op.equal t (.agg p) (.agg q))) : Sem Value).run P w = _
      rw [Sem.run_bind, hr w]; rfl
    · show (do pure (Value.bool (!(← Op.equal t (.agg p) (.agg q)))) : Sem Value).run P w = _
      rw [Sem.run_bind, hr w]; rfl⟩
theorem ChainG.opew {ι : Type} [Nonempty ι] {m ny : Nat} {TL : List (Nat × ((Nat → ι) → List Item))} {i : Nat} {E Ef : (Nat → ι) → Env} {S : List (Sp ι)} {d j tj : Nat} {b : Bool} (v : (Nat → ι) → Value) (U D : List Nat) (hq : ∀ X, OpE P o (E X) w0 (hp.drop ny) (U.flatMap (tf TL m hp X)) (fun x => v (gset X i x)) (fun x => tk TL i (gset X i x))) (hg : o.guard = some (j, b)) (hj : (ops[j]?).bind (·.dst) = some tj) (hb : ∀ X, look tj (E X) = some (.bool b)) (hd : o.dst = some d) (hl : LocG i D v (tk TL i))
    (k : ChainG P w0 hp m ny ops TL (i + 1) l (fun X => (d, v X) :: E X) S Ef) : ChainG P w0 hp m ny ops TL i (o :: l) E (⟨some d, v, U, [], D⟩ :: S) Ef :=
  .want v U [] D (fun X => by
    simp only [List.append_nil, List.flatMap_nil]
    exact hq X) hg hj hb hd hl k
end
end Go.Sx
end
section
namespace Go.Sx
open Go.RowKit
set_option linter.unusedVariables false
set_option linter.unusedSimpArgs false
structure Upd (b : Nat) (T : TypeId) (cs cs' : List Value) (w w' : World) : Prop where
  os : w'.os = w.os
  tape : w'.tape = w.tape
  output : w'.output = w.output
  size : w.heap.size ≤ w'.heap.size
  was : Blk w b cs T
  now : Blk w' b cs' T
  other : ∀ k, k < w.heap.size → k ≠ b → w'.heap[k]? = w.heap[k]?
theorem Upd.below {b : Nat} {T : TypeId} {cs cs' : List Value} {w w' : World} {n : Nat} (h : Upd b T cs cs' w w') (hn : n ≤ b) (hn2 : n ≤ w.heap.size) : Below n w w' :=
  ⟨h.os, h.tape, h.output, h.size, fun k hk => h.other k (by omega) (by omega)⟩
theorem Upd.cell {b : Nat} {T : TypeId} {cs cs' : List Value} {w w' : World} {ad : Addr} {v : Value} (h : Upd b T cs cs' w w') (hc : w.cell? ad = some v) (hn : ad.block ≠ b) : w'.cell? ad = some v := by
  rw [cell_move (w := w) (h.other ad.block (block_lt_of_cell hc) hn)]
  exact hc
theorem Upd.blk {b b2 : Nat} {T T2 : TypeId} {cs cs' cs2 : List Value} {w w' : World} (h : Upd b T cs cs' w w') (h2 : Blk w b2 cs2 T2) (hT : T2 ≠ T) : Blk w' b2 cs2 T2 := by
  have hb : b2 ≠ b := by
    rintro rfl
    have h3 := (Option.some.inj (h2.symm.trans h.was))
    cases h3
    exact hT rfl
  exact (h.other b2 (Array.getElem?_eq_some_iff.1 h2).1 hb).trans h2
theorem Upd.ne {b : Nat} {T : TypeId} {cs cs' : List Value} {w w' : World} {ad : Addr} {v : Value} (h : Upd b T cs cs' w w') (hc : w.cell? ad = some v) (hn : ∀ k : Nat, cs[k]? ≠ some v) : ad.block ≠ b := by
  intro e
  have hw := h.was
  unfold World.cell? at hc
  rw [e, hw] at hc
  simp only [List.getElem?_toArray] at hc
  split at hc
  · cases hc
  · exact hn _ hc
section
variable {P : Program} {ops : Array Oper} {Q : Exit → Act → World → Prop} {w0 : World} {N : Fr} {l : List Oper} {env : Env} {hp : List Item} {o : Oper}
theorem wl_storeK {T T' : TypeId} {x y : Operand} {b off n : Nat} {cs vs cs' : List Value} {v : Value} (hb : Blk w0 b cs T') (ho : o.op = .store T x y) (hg : o.guard = none) (hd : o.dst = none) (hx : evE x env = some (.pointer (some ⟨b, off, none⟩))) (hy : evE y env = some v)
    (hs : P.sizeIs T = some n) (hv : v.cells = vs.toArray) (hn : vs.length = n) (hfit : off + n ≤ cs.length) (h1 : ∀ u ∈ vs, u.oneCell' = true) (hc : cs.take off ++ vs ++ cs.drop (off + vs.length) = cs')
    (k : ∀ w w2, HeapOK w0 [old w0] w → Upd b T' cs cs' w w2 → WL P ops Q w2 N l env [old w2]) : WL P ops Q w0 N (o :: l) env [old w0] := by
  refine wl_ground (fun wn hn1 => ?_)
  have hbn : Blk wn b cs T' := hb.below (hn1.toBelow (by simp))
  have hlt : b < wn.heap.size := (Array.getElem?_eq_some_iff.1 hbn).1
  refine wl_thaw 0 rfl hlt hbn ?_
  refine wl_store (i := 0) ho hg hd hx hy rfl hs hv hn hfit h1 hc rfl ?_
  refine wl_ground (fun w2 h2 => k wn w2 hn1 ⟨h2.os, h2.tape, h2.output, h2.size, hbn, h2.get (i := 0) rfl, fun j hj hne => ?_⟩)
  exact (h2.ok (.ro (fun k => k < wn.heap.size ∧ k ≠ b) wn) (by simp)) j ⟨hj, hne⟩
end
end Go.Sx
end
section
namespace Go.Proofs.YtglgipggefpoiaaGreatDoor.SF
open Go.RowKit Go.Sx
set_option linter.unusedVariables false
set_option linter.unusedSimpArgs false
theorem var_below {P : Program} {w w' : World} {name : String} {cs : Array Value} (h : w.var? P name = some cs) (hb : Below w.heap.size w w') : w'.var? P name = some cs := by
  unfold World.var? at h ⊢
  cases hg : P.globalNamed name with
  | none => rw [hg] at h; cases h
  | some g =>
    rw [hg] at h
    simp only [Option.bind_some] at h ⊢
    cases hc : w.heap[g]? with
    | none => rw [hc] at h; cases h
    | some o =>
      rw [hb.block g (Array.getElem?_eq_some_iff.1 hc).1]
      exact h
structure Lw (w : World) : Prop where
  tab : Lib.TabIs Tryz.prog w "internal/strconv.uint64pow10" .u64 Lib.pow10Tab
  syn : ∃ tp p, w.var? Tryz.prog "strconv.ErrSyntax" = some #[.iface tp p]
  ran : ∃ tp p, w.var? Tryz.prog "strconv.ErrRange" = some #[.iface tp p]
  len : ∃ m, w.cell? ⟨4, 0, none⟩ = some (.int .i64 m)
theorem Lw.below {w w' : World} (h : Lw w) (hb : Below w.heap.size w w') : Lw w' := by
  obtain ⟨t1, p1, h1⟩ := h.syn
  obtain ⟨t2, p2, h2⟩ := h.ran
  obtain ⟨m, h3⟩ := h.len
  exact ⟨var_below h.tab hb, ⟨t1, p1, var_below h1 hb⟩, ⟨t2, p2, var_below h2 hb⟩, ⟨m, by rw [hb.cell (block_lt_of_cell h3)]; exact h3⟩⟩
theorem itoa_calls (n : Int) (h : -9223372036854775808 ≤ n ∧ n ≤ 9223372036854775807) (w : World) (hl : Lw w) : Calls Tryz.prog 17 #[.int .i64 n] w fun e w' => e = .returned (.string ⟨(Lib.itoa n).toArray⟩) ∧ Below w.heap.size w w' :=
  (Tryz.strconv_Itoa n h.1 h.2 w hl.tab).mono fun e w' ⟨h1, k, os, h2⟩ => ⟨h1, h2 ▸ grow_below w k os⟩
set_option maxRecDepth 100000 in
theorem fu_calls (u : Nat) (hu : u < 18446744073709551616) (w : World) (hl : Lw w) : Calls Tryz.prog 18 #[.int .u64 u, .int .i64 10] w fun e w' => e = .returned (.string ⟨(Lib.decDigits u).toArray⟩) ∧ Below w.heap.size w w' := by
  have ht := hl.tab
  go_enter Tryz.func18, Tryz.ntmps18
  go_wp2_with (go_at_call 40; refine (ifu_calls u hu _ ht).mono ?_; rintro e w' ⟨rfl, hb⟩)
  go_ret
  exact ⟨rfl, hb⟩
def AtoiC (s : ByteArray) (n : Int) (ev : Value) : Prop := (ev = .nilIface ∧ Lib.atoiAll s.data.toList = .ok n) ∨ ((∃ N, ev = .iface 147 (.pointer (some ⟨N, 0, none⟩))) ∧ -9223372036854775808 ≤ n ∧ n ≤ 9223372036854775807 ∧ ∀ v, Lib.atoiAll s.data.toList ≠ .ok v)
theorem atoi_calls (s : ByteArray) (hs : s.size ≤ 1000000) (w : World) (hl : Lw w) : Calls Tryz.prog 45 #[.string s] w fun e w' => ∃ i : Int × Value, e = .returned (.tuple #[.int .i64 i.1, i.2]) ∧ AtoiC s i.1 i.2 ∧ Below w.heap.size w w' := by
  cases h : Lib.atoiAll s.data.toList with
  | ok v =>
    refine (Tryz.strconv_Atoi_ok s (by omega) v h w).mono fun e w' ⟨h1, h2⟩ => ⟨(v, .nilIface), h1, .inl ⟨rfl, h⟩, ?_⟩
    rcases h2 with rfl | ⟨t, rfl⟩
    · exact Below.refl _ _
    · exact Lib.bytesWorld_below w 5 t
  | «syntax» =>
    obtain ⟨tp, p, hv⟩ := hl.syn
    exact (Tryz.strconv_Atoi_syntax_var s (by omega) h tp p w hv).mono fun e w' ⟨N, h1, h2, h3, h4⟩ => ⟨(0, _), h1, .inr ⟨⟨N, rfl⟩, (by dsimp only; decide), (by dsimp only; decide), fun v => by rw [h]; intro h; cases h⟩, h4⟩
  | range =>
    obtain ⟨tp, p, hv⟩ := hl.ran
    exact (Tryz.strconv_Atoi_range_var s (by omega) h tp p w hv).mono fun e w' ⟨N, h1, h2, h3, h4⟩ => ⟨(Lib.atoiSat s.data.toList, _), h1, .inr ⟨⟨N, rfl⟩, (by dsimp only; unfold Lib.atoiSat; split <;> decide), (by dsimp only; unfold Lib.atoiSat; split <;> decide), fun v => by rw [h]; intro h; cases h⟩, h4⟩
def PuintC (s : ByteArray) (n : Nat) (ev : Value) : Prop := n < 18446744073709551616 ∧ ((ev = .nilIface ∧ Lib.parseUintB 64 s.data.toList = .ok n) ∨ ((∃ N, ev = .iface 147 (.pointer (some ⟨N, 0, none⟩))) ∧ ∀ v, Lib.parseUintB 64 s.data.toList ≠ .ok v))
theorem puint_calls (s : ByteArray) (hs : s.size ≤ 1000000) (w : World) (hl : Lw w) (hok : ∀ v, Lib.parseUintB 64 s.data.toList = .ok v → v < 18446744073709551616) : Calls Tryz.prog 27 #[.string s, .int .i64 10, .int .i64 64] w fun e w' => ∃ i : Nat × Value, e = .returned (.tuple #[.int .u64 i.1, i.2]) ∧ PuintC s i.1 i.2 ∧ Below w.heap.size w w' := by
  cases h : Lib.parseUintB 64 s.data.toList with
  | ok v =>
    refine (Tryz.strconv_ParseUint_10_at64_ok s (by omega) v h w).mono fun e w' ⟨h1, h2⟩ => ⟨(v, .nilIface), h1, ⟨hok v h, .inl ⟨rfl, h⟩⟩, ?_⟩
    rcases h2 with rfl | rfl
    · exact Below.refl _ _
    · exact Lib.bytesWorld_below w 5 s
  | «syntax» =>
    obtain ⟨tp, p, hv⟩ := hl.syn
    exact (Tryz.strconv_ParseUint_10_at64_syntax_var s (by omega) h tp p w hv).mono fun e w' ⟨N, h1, h2, h3, h4⟩ => ⟨(0, _), h1, ⟨(by dsimp only; decide), .inr ⟨⟨N, rfl⟩, fun v => by rw [h]; intro h; cases h⟩⟩, h4⟩
  | range =>
    obtain ⟨tp, p, hv⟩ := hl.ran
    exact (Tryz.strconv_ParseUint_10_at64_range_var s (by omega) h tp p w hv).mono fun e w' ⟨N, h1, h2, h3, h4⟩ => ⟨(18446744073709551615, _), h1, ⟨(by dsimp only; decide), .inr ⟨⟨N, rfl⟩, fun v => by rw [h]; intro h; cases h⟩⟩, h4⟩
def StrsAt (w : World) (A : Option Addr) (ws : List ByteArray) : Prop := ws ≠ [] → ∃ b o, A = some ⟨b, o, none⟩ ∧ ∀ (j : Nat) x, ws[j]? = some x → w.cell? ⟨b, o + j, none⟩ = some (.string x)
theorem StrsAt.below {w w' : World} {A : Option Addr} {ws : List ByteArray} (h : StrsAt w A ws) (hb : Below w.heap.size w w') : StrsAt w' A ws := fun hne => by
  obtain ⟨b, o, e, hc⟩ := h hne
  exact ⟨b, o, e, fun j x hx => by rw [hb.cell (block_lt_of_cell (hc j x hx))]; exact hc j x hx⟩
theorem join_calls (A : Option Addr) (c : Nat) (xs : List ByteArray) (sep : ByteArray) (w : World) (h : StrsAt w A xs) (hN : xs.length ≤ 1000000) (hcap : xs.length ≤ c) (hne : xs ≠ []) (hlen : (Lib.join (xs.map (·.data.toList)) sep.data.toList).length ≤ 140737488355328) :
    Calls Tryz.prog 20 #[.slice A xs.length c, .string sep] w fun e w' => e = .returned (.string ⟨(Lib.join (xs.map (·.data.toList)) sep.data.toList).toArray⟩) ∧ Below w.heap.size w w' := by
  obtain ⟨b, o, rfl, hc⟩ := h hne
  have hb : b < w.heap.size := by
    obtain ⟨x, hx⟩ : ∃ x, xs[0]? = some x := ⟨_, List.getElem?_eq_getElem (List.length_pos_iff.2 hne)⟩
    exact block_lt_of_cell (hc 0 x hx)
  exact Tryz.strings_Join b o c xs sep w hc hb (by omega) hcap hlen
theorem split_calls (s sep : ByteArray) (w : World) (hl : Lw w) (hs : s.size < 4294967281) (h1 : 1 ≤ sep.size) : Calls Tryz.prog 23 #[.string s, .string sep] w fun e w' => ∃ i : Nat, e = .returned (.slice (some ⟨i, 0, none⟩) (Lib.splitB sep 0 (Lib.countB s sep) s).length (Lib.splitB sep 0 (Lib.countB s sep) s).length) ∧ StrsAt w' (some ⟨i, 0, none⟩) (Lib.splitB sep 0 (Lib.countB s sep) s) ∧ Below w.heap.size w w' := by
  obtain ⟨m, hm⟩ := hl.len
  refine (Tryz.strings_Split s sep m w hs hm h1).mono ?_
  rintro e w' ⟨rfl, rfl⟩
  have hlen : (Lib.splitB sep 0 (Lib.countB s sep) s).length = Lib.countB s sep + 1 := Lib.splitB_all sep h1 0 _ s rfl
  refine ⟨w.heap.size, by rw [hlen], fun _ => ⟨_, _, rfl, fun j x hx => ?_⟩, (Below.refl _ _).alloc (Nat.le_refl _) _⟩
  rw [World.cell?_alloc_new]
  simp [hx]
end Go.Proofs.YtglgipggefpoiaaGreatDoor.SF
end
section
namespace Go.Sx
open Go.RowKit
set_option linter.unusedVariables false
set_option linter.unusedSimpArgs false
theorem Upd.refl {b : Nat} {T : TypeId} {cs : List Value} {w : World} (h : Blk w b cs T) : Upd b T cs cs w w := ⟨rfl, rfl, rfl, Nat.le_refl _, h, h, fun _ _ _ => rfl⟩
theorem Upd.below_r {b : Nat} {T : TypeId} {cs cs' : List Value} {w w1 w2 : World} (h : Upd b T cs cs' w w1) (hb : Below w1.heap.size w1 w2) : Upd b T cs cs' w w2 :=
  ⟨hb.os.trans h.os, hb.tape.trans h.tape, hb.output.trans h.output, Nat.le_trans h.size hb.size, h.was, h.now.below hb, fun k hk hn => (hb.block k (Nat.lt_of_lt_of_le hk h.size)).trans (h.other k hk hn)⟩
theorem Upd.trans {b : Nat} {T : TypeId} {cs cs1 cs2 : List Value} {w w1 w2 : World} (h : Upd b T cs cs1 w w1) (h2 : Upd b T cs1 cs2 w1 w2) : Upd b T cs cs2 w w2 :=
  ⟨h2.os.trans h.os, h2.tape.trans h.tape, h2.output.trans h.output, Nat.le_trans h.size h2.size, h.was, h2.now, fun k hk hn => (h2.other k (Nat.lt_of_lt_of_le hk h.size) hn).trans (h.other k hk hn)⟩
theorem Blk.lt {w : World} {b : Nat} {cs : List Value} {T : TypeId} (h : Blk w b cs T) : b < w.heap.size := (Array.getElem?_eq_some_iff.1 h).1
theorem Upd.blkN {b b2 : Nat} {T T2 : TypeId} {cs cs' cs2 : List Value} {w w' : World} (h : Upd b T cs cs' w w') (h2 : Blk w b2 cs2 T2) (hn : b2 ≠ b) : Blk w' b2 cs2 T2 := (h.other b2 h2.lt hn).trans h2
theorem Upd.new {b b2 : Nat} {T T2 : TypeId} {cs cs' c1 c2 : List Value} {w w1 w2 : World} (h : Upd b T cs cs' w w1) (h2 : Upd b2 T2 c1 c2 w1 w2) (hn : w.heap.size ≤ b2) (hT : T ≠ T2) : Upd b T cs cs' w w2 :=
  ⟨h2.os.trans h.os, h2.tape.trans h.tape, h2.output.trans h.output, Nat.le_trans h.size h2.size, h.was, h2.blk h.now hT, fun k hk hn2 => (h2.other k (Nat.lt_of_lt_of_le hk h.size) (by omega)).trans (h.other k hk hn2)⟩
section
variable {P : Program} {ops : Array Oper} {Q : Exit → Act → World → Prop} {w0 : World} {N : Fr} {l : List Oper} {env : Env} {hp : List Item} {o : Oper}
theorem wl_callU {ι : Type} {f d b : Nat} {T : TypeId} {cs : List Value} {args : Array Operand} {ts : Array TypeId} {vs : List Value} (rv : ι → Value) (cs' : ι → List Value) (C : ι → World → World → Prop) (hb : Blk w0 b cs T) (ho : o.op = .call { callee := .value (.func f), args := args, argTypes := ts }) (hg : o.guard = none) (hd : o.dst = some d) (hN : d < N)
    (he : Ent P f) (ha : evL args.toList env = some vs) (hc : ∀ w, HeapOK w0 [old w0] w → Calls P f vs.toArray w (fun e w' => ∃ i, C i w w' ∧ e = .returned (rv i) ∧ Upd b T cs (cs' i) w w'))
    (k : ∀ i w w2, HeapOK w0 [old w0] w → Upd b T cs (cs' i) w w2 → C i w w2 → WL P ops Q w2 N l ((d, rv i) :: env) [old w2]) : WL P ops Q w0 N (o :: l) env [old w0] := by
  intro a w h
  refine wpList_plain hg fun K hK => ?_
  unfold Oper.wp
  rw [call_func ho, evA_of h.env ha, he]
  rw [Oper.upon_enter]
  refine (hc w h.heap).mono ?_
  rintro e w' ⟨i, hC, rfl, hu⟩
  refine hK _ _ ?_
  rw [hd]
  have hp1 := h.put d (rv i) hN h.heap
  exact k i w w' h.heap hu hC _ _ ⟨hp1.size, hp1.defers, hp1.env, HeapOK.start w'⟩
theorem wl_insert {T K E : TypeId} {x y z : Operand} {i b : Nat} {k : IntKind} {n : Int} {ms : List (Int × Value)} {v : Value} {hp' : List Item} (ho : o.op = .insert T x y z) (hg : o.guard = none) (hd : o.dst = none) (hx : evE x env = some (.map (some b))) (hy : evE y env = some (.int k n)) (hzv : evE z env = some v) (hT : P.underlying T = some (.map K E)) (hK : P.underlying K = some (.int k)) (hi : hp[i]? = some (.obj b (mobj k ms))) (hh : hp.set i (.obj b (mobj k (mput ms n v))) = hp')
    (kk : WL P ops Q w0 N l env hp') : WL P ops Q w0 N (o :: l) env hp := by
  subst hh
  intro a w h
  refine wpList_plain hg fun K' hK' => ?_
  have hb : w.heap[b]? = some (mobj k ms) := h.heap.get hi
  have hf : (Instr.findKey K (.int k n) (ents k 0 ms).toArray.toList).run P w = .ok (mloc ms n 0) w := MapKept.run_findKey hK (findNow_ents k n ms 0 0)
  have hr : (execOp a.eval o).run P w = .ok .skip { w with heap := w.heap.setIfInBounds b (mobj k (mput ms n v)) } := by
    unfold execOp
    simp only [ho, ev_of h.env hx, ev_of h.env hy, ev_of h.env hzv, Instr.mapUpdate, Sem.run_bind, run_underlying hT, Result.andThen_ok, MapKept.run_getObj_map hb, Sem.run_pure, run_checkKey hK, hf]
    cases hm : mloc ms n 0 with
    | none =>
      have := ents_none k n v ms 0 0 hm
      have e : (.map ((ents k 0 ms).toArray.push { key := .int k n, val := v, born := ms.length }) (ms.length + 1) : Obj) = mobj k (mput ms n v) := by
        unfold mobj
        rw [this.1, this.2]
        simp
      simp only [MapKept.run_setObj_map _ hb, Result.andThen_ok, Sem.run_pure]
      rw [e]
    | some q =>
      obtain ⟨j, u⟩ := q
      obtain ⟨m, h1, ⟨b', h2⟩, h3, h4⟩ := ents_some k n v ms 0 0 j u hm
      have hj : j = m := by omega
      subst hj
      have e : (.map ((ents k 0 ms).toArray.modify j fun e => { e with key := .int k n, val := v }) ms.length : Obj) = mobj k (mput ms n v) := by
        unfold mobj
        rw [h3, h4]
        simp
      have hk : (Instr.keyThatStays ((((ents k 0 ms).toArray[j]?).map (·.key)).getD (.int k n)) (.int k n)).run P w = .ok (.int k n) w := by
        have : (ents k 0 ms).toArray[j]? = some ⟨.int k n, u, b'⟩ := by simpa using h2
        rw [this]
        simp [Instr.keyThatStays, Instr.sameBits]
      simp only [hk, Sem.run_bind, MapKept.run_setObj_map _ hb, Result.andThen_ok, Sem.run_pure]
      rw [e]
  unfold Oper.wp
  rw [hr]
  rw [Oper.upon_skip]
  refine hK' _ _ ?_
  rw [hd]
  refine kk _ _ ⟨h.size, h.defers, h.env, ?_⟩
  have hlt := (Array.getElem?_eq_some_iff.1 hb).1
  refine h.heap.updAt hi rfl rfl rfl (by simp) (fun k' hk hn => ?_) ?_ (fun k' hk => ⟨.inl hk, ?_⟩)
  · exact Array.getElem?_setIfInBounds_ne (fun e => hn e.symm)
  · show (w.heap.setIfInBounds b _)[b]? = some _
    simp [hlt]
  · have : k' = b := hk
    subst this
    simpa using hlt
theorem wl_rangeMap {T K E d i b : Nat} {x : Operand} {k : IntKind} {ms : List (Int × Value)} (ho : o.op = .range T x) (hg : o.guard = none) (hd : o.dst = some d) (hN : d < N) (hx : evE x env = some (.map (some b))) (hT : P.underlying T = some (.map K E)) (hi : hp[i]? = some (.obj b (mobj k ms)))
    (kk : ∀ r, WL P ops Q w0 N l ((d, .pointer (some ⟨r, 0, none⟩)) :: env) (.obj r (.mapIter (some b) ms.length #[] ms.length) :: hp)) : WL P ops Q w0 N (o :: l) env hp := by
  intro a w h
  refine wpList_plain hg fun K hK => ?_
  unfold Oper.wp
  have hb : w.heap[b]? = some (mobj k ms) := h.heap.get hi
  have hr : (execOp a.eval o).run P w = .ok (.value (.pointer (some ⟨w.heap.size, 0, none⟩))) (w.alloc (.mapIter (some b) ms.length #[] ms.length)) := by
    unfold execOp
    simp only [ho, ev_of h.env hx, Instr.range, Sem.run_bind, run_underlying hT, Result.andThen_ok, MapKept.run_getObj_map hb, Sem.run_pure]
    rfl
  rw [hr]
  refine hK _ _ ?_
  rw [hd]
  exact kk _ _ _ (h.put d _ hN (h.heap.alloc _))
theorem ents_born (k : IntKind) : ∀ (i : Nat) (ms : List (Int × Value)), (ents k i ms).map (·.born) = List.range' i ms.length
  | _, [] => rfl
  | i, (y, u) :: r => by rw [ents, List.map_cons, ents_born k (i + 1) r]; rfl
theorem ents_at (k : IntKind) : ∀ (i : Nat) (ms : List (Int × Value)) (e : MapEntry), e ∈ ents k i ms → ∃ m y u, ms[m]? = some (y, u) ∧ e = ⟨.int k y, u, i + m⟩
  | _, [], e, h => by cases h
  | i, (y, u) :: r, e, h => by
    unfold ents at h
    rcases List.mem_cons.1 h with rfl | h
    · exact ⟨0, y, u, rfl, rfl⟩
    · obtain ⟨m, y', u', h1, h2⟩ := ents_at k (i + 1) r e h
      exact ⟨m + 1, y', u', h1, by rw [h2, Nat.add_assoc, Nat.add_comm 1]⟩
theorem ents_mem (k : IntKind) : ∀ (i : Nat) (ms : List (Int × Value)) (m : Nat) (y : Int) (u : Value), ms[m]? = some (y, u) → (⟨.int k y, u, i + m⟩ : MapEntry) ∈ ents k i ms
  | _, [], m, y, u, h => by simp at h
  | i, (y', u') :: r, 0, y, u, h => by cases h; exact List.mem_cons_self
  | i, (y', u') :: r, m + 1, y, u, h => by
    have := ents_mem k (i + 1) r m y u (by simpa using h)
    unfold ents
    refine List.mem_cons_of_mem _ ?_
    rw [show i + (m + 1) = i + 1 + m by omega]
    exact this
theorem HeapOK.blkOwn {w : World} {i b n sz : Nat} {cs : List Value} {T : TypeId} (h : HeapOK w0 hp w) (hi : hp[i]? = some (.blk b cs T)) (hl : cs.length = n * sz) (hn : n ≤ maxLen) : HeapOK w0 (hp.set i (.own 0 T sz (.slice (some ⟨b, 0, none⟩) n n) n cs)) w := by
  have hb : w.heap[b]? = some (.cells cs.toArray T (0, 0)) := h.get hi
  have hlt := (Array.getElem?_eq_some_iff.1 hb).1
  refine h.updAt hi rfl rfl rfl (Nat.le_refl _) (fun _ _ _ => rfl) ?_ (fun k hk => ?_)
  · exact ⟨hl, .inr ⟨b, n, cs.toArray, rfl, Nat.zero_le _, hb, Nat.le_refl _, hn, by simpa using hl, by rw [List.take_of_length_le (by simp [hl])]⟩⟩
  · have hk' : some b = some k := hk
    cases hk'
    exact ⟨.inl rfl, hlt⟩
theorem wc_blkOwn {c : Code} (i n sz : Nat) {b : Nat} {cs : List Value} {T : TypeId} (hi : hp[i]? = some (.blk b cs T)) (hl : cs.length = n * sz) (hn : n ≤ maxLen) (k : WC P c Q w0 N env (hp.set i (.own 0 T sz (.slice (some ⟨b, 0, none⟩) n n) n cs))) : WC P c Q w0 N env hp := fun a w h => k a w ⟨h.size, h.defers, h.env, h.heap.blkOwn hi hl hn⟩
theorem fq_ownEq {e : Exit} (i : Nat) {E sz n n' : Nat} {v v' : Value} {xs xs' : List Value} (hi : hp[i]? = some (.own 0 E sz v n xs)) (hv : v = v') (hn : n = n') (hx : xs = xs') (k : FQ Q e w0 N env (hp.set i (.own 0 E sz v' n' xs'))) : FQ Q e w0 N env hp := by
  subst hv hn hx
  obtain ⟨h1, h2⟩ := List.getElem?_eq_some_iff.1 hi
  rw [← h2, List.set_getElem_self] at k
  exact k
theorem HeapOK.apart_oldR {w : World} {hp : List Item} {i j b : Nat} {cs : List Value} {T : TypeId} (h : HeapOK w0 hp w) (hi : hp[i]? = some (.blk b cs T)) (hj : hp[j]? = some (old w0)) (hij : i < j) : w0.heap.size ≤ b := by
  obtain ⟨hi1, hi2⟩ := List.getElem?_eq_some_iff.1 hi
  obtain ⟨hj1, hj2⟩ := List.getElem?_eq_some_iff.1 hj
  have h3 := List.pairwise_iff_getElem.1 h.apart i j hi1 hj1 hij
  rw [hi2, hj2] at h3
  rcases Nat.lt_or_ge b w0.heap.size with hb | hb
  · exact absurd (show (old w0).foot b from hb) (h3.l rfl b rfl)
  · exact hb
theorem fq_cellK {fn : Func} {R : Ending → World → Prop} {t : Nat} {T : TypeId} {b : Nat} {cs : List Value} {T' : TypeId} {n : Nat} {e : Exit} (he : e = .ret ∨ e = .normal) (hr : fn.results = #[.cell t T]) (hv : look t env = some (.pointer (some ⟨b, 0, none⟩))) (hm : old w0 ∈ hp) (hb : Blk w0 b cs T') (hT : P.manyB T = some true) (hs : P.sizeIs T = some n) (hn : cs.length = n)
    (h : ∀ w, HeapOK w0 hp w → R (.returned (.agg cs.toArray)) w) (hd0 : N.ds = [] := by rfl) : FQ (bodyPost P fn R) e w0 N env hp := fun a w hh => by
  have hrun : (results fn a.tmps).run P w = .ok (.agg cs.toArray) w := by
    have h1 := run_loadCells_list (P := P) w ⟨b, 0, none⟩ cs (reads_blkA hm hb w hh.heap)
    rw [hn] at h1
    have h2 := hh.env t _ hv
    have h3 : a.tmps[t]?.getD undef = .pointer (some ⟨b, 0, none⟩) := by rw [← Array.getD_eq_getD_getElem?]; exact h2
    simp [results, hr, h3, asAddr, loadVar, run_isAgg hT, run_sizeOf hs, h1]
  rcases he with rfl | rfl
  · exact bodyPost_ret hrun (hh.defers.trans hd0) (h w hh.heap)
  · exact bodyPost_end hrun (hh.defers.trans hd0) (h w hh.heap)
theorem fq_cell_tmpK {fn : Func} {R : Ending → World → Prop} {t u : Nat} {T : TypeId} {b : Nat} {cs : List Value} {x : Value} {T' : TypeId} {n : Nat} {e : Exit} (he : e = .ret ∨ e = .normal) (hr : fn.results = #[.cell t T, .tmp u]) (hv : look t env = some (.pointer (some ⟨b, 0, none⟩))) (hx : look u env = some x) (hm : old w0 ∈ hp) (hb : Blk w0 b cs T') (hT : P.manyB T = some true) (hs : P.sizeIs T = some n) (hn : cs.length = n)
    (h : ∀ w, HeapOK w0 hp w → R (.returned (.tuple #[.agg cs.toArray, x])) w) (hd0 : N.ds = [] := by rfl) : FQ (bodyPost P fn R) e w0 N env hp := fun a w hh => by
  have hrun : (results fn a.tmps).run P w = .ok (.tuple #[.agg cs.toArray, x]) w := by
    have h1 := run_loadCells_list (P := P) w ⟨b, 0, none⟩ cs (reads_blkA hm hb w hh.heap)
    rw [hn] at h1
    have h2 := hh.env t _ hv
    have h3 : a.tmps[t]?.getD undef = .pointer (some ⟨b, 0, none⟩) := by rw [← Array.getD_eq_getD_getElem?]; exact h2
    have h4 := hh.env u _ hx
    have h5 : a.tmps[u]?.getD undef = x := by rw [← Array.getD_eq_getD_getElem?]; exact h4
    simp [results, hr, h3, h5, asAddr, loadVar, run_isAgg hT, run_sizeOf hs, h1]
  rcases he with rfl | rfl
  · exact bodyPost_ret hrun (hh.defers.trans hd0) (h w hh.heap)
  · exact bodyPost_end hrun (hh.defers.trans hd0) (h w hh.heap)
open Go.ChangeMaps (setBlock)
theorem wl_next {d i j b r : Nat} {x : Operand} {k : IntKind} {ms : List (Int × Value)} {seen : Array Nat} (ho : o.op = .next x false) (hg : o.guard = none) (hd : o.dst = some d) (hN : d < N) (hx : evE x env = some (.pointer (some ⟨r, 0, none⟩))) (hi : hp[i]? = some (.obj b (mobj k ms))) (hj : hp[j]? = some (.obj r (.mapIter (some b) ms.length seen ms.length)))
    (kend : (∀ m, m < ms.length → m ∈ seen) → WL P ops Q w0 N l ((d, .tuple #[.bool false]) :: env) hp)
    (kgo : ∀ m y u, ms[m]? = some (y, u) → m ∉ seen → WL P ops Q w0 N l ((d, .tuple #[.bool true, .int k y, u]) :: env) (hp.set j (.obj r (.mapIter (some b) ms.length (seen.push m) ms.length)))) : WL P ops Q w0 N (o :: l) env hp := by
  intro a w h
  refine wpList_plain hg fun K hK => ?_
  have hb : w.heap[b]? = some (mobj k ms) := h.heap.get hi
  have hr : w.heap[r]? = some (.mapIter (some b) ms.length seen ms.length) := h.heap.get hj
  unfold Oper.wp execOp
  simp only [ho, ev_of h.env hx]
  have hold : ∀ y ∈ (ents k 0 ms).toArray.toList, y.born < ms.length := fun y hy => by
    obtain ⟨m, y', u', h1, rfl⟩ := ents_at k 0 ms y (by simpa using hy)
    have := (List.getElem?_eq_some_iff.1 h1).1
    simp; omega
  rcases run_next_at (P := P) w o.type r b ms.length ms.length seen (ents k 0 ms).toArray ms.length hr hb hold (Nat.le_refl _) with ⟨h0, h1⟩ | ⟨e, he, w1, hw1, h1⟩
  · simp only [Sem.run_bind, h1, Result.andThen_ok, Sem.run_pure]
    refine hK _ _ ?_
    rw [hd]
    refine kend (fun m hm => ?_) _ _ (h.put d _ hN h.heap)
    rcases Decidable.em (m ∈ seen) with hs | hs
    · exact hs
    · exfalso
      have hmem := ents_mem k 0 ms m (ms[m]).1 (ms[m]).2 (by simp [hm])
      have : (⟨.int k (ms[m]).1, (ms[m]).2, 0 + m⟩ : MapEntry) ∈ (leftOf (ents k 0 ms).toArray seen).toList := by
        unfold leftOf
        simp only [Array.toList_filter, List.mem_filter]
        refine ⟨hmem, ?_⟩
        simpa using hs
      have h2 := List.length_pos_of_mem this
      simp at h2
      omega
  · simp only [Sem.run_bind, h1, Result.andThen_ok, Sem.run_pure]
    refine hK _ _ ?_
    rw [hd]
    unfold leftOf at he
    simp only [Array.toList_filter, List.mem_filter] at he
    obtain ⟨m, y, u, h2, rfl⟩ := ents_at k 0 ms e he.1
    have hns : m ∉ seen := by simpa using he.2
    refine kgo m y u h2 hns _ _ (h.put d _ hN ?_)
    have hw1' : HeapOK w0 hp w1 := by
      rcases hw1 with rfl | rfl
      · exact h.heap
      · exact h.heap.below ⟨rfl, rfl, rfl, Nat.le_refl _, fun _ _ => rfl⟩
    have hr1 : w1.heap[r]? = some (.mapIter (some b) ms.length seen ms.length) := hw1'.get hj
    have hlt := (Array.getElem?_eq_some_iff.1 hr1).1
    rw [Nat.zero_add]
    refine hw1'.updAt hj rfl rfl rfl (by simp [setBlock]) (fun k' hk hn => ?_) ?_ (fun k' hk => ⟨.inl hk, ?_⟩)
    · exact Array.getElem?_setIfInBounds_ne (fun e => hn e.symm)
    · show (setBlock w1 r _).heap[r]? = some _
      simp [setBlock, hlt]
    · have : k' = r := hk
      subst this
      simpa [setBlock] using hlt
theorem q_entry {i j b r m : Nat} {x : Operand} {k : IntKind} {ms : List (Int × Value)} {seen : Array Nat} {y : Int} {u : Value} (ho : o.op = .entry x) (hx : evE x env = some (.pointer (some ⟨r, 0, none⟩))) (hi : hp[i]? = some (.obj b (mobj k ms))) (hj : hp[j]? = some (.obj r (.mapIter (some b) ms.length (seen.push m) ms.length))) (hm : ms[m]? = some (y, u)) : OpQ P o env w0 hp (.tuple #[.int k y, u]) := q_run fun a w he hh => by
  have hb : w.heap[b]? = some (mobj k ms) := hh.get hi
  have hr : w.heap[r]? = some (.mapIter (some b) ms.length (seen.push m) ms.length) := hh.get hj
  have hmem := ents_mem k 0 ms m y u hm
  rw [Nat.zero_add] at hmem
  have := run_entry_at (P := P) w r b ms.length seen (ents k 0 ms).toArray ms.length ⟨.int k y, u, m⟩ hr hb (by simpa using hmem) (by
    rw [show (ents k 0 ms).toArray.toList.map (·.born) = (ents k 0 ms).map (·.born) from rfl, ents_born]; exact List.nodup_range')
  unfold execOp
  simp only [ho, ev_of he hx, Sem.run_bind, this, Result.andThen_ok, Sem.run_pure]
end
end Go.Sx
end
section
namespace Go.Sx
open Go.RowKit
set_option linter.unusedVariables false
set_option linter.unusedSimpArgs false
section
variable {P : Program} {ops : Array Oper} {Q : Exit → Act → World → Prop} {w0 : World} {N : Fr} {l : List Oper} {env : Env} {hp : List Item} {o : Oper}
theorem WC.less {c : Code} {env' : Env} {hp' : List Item} (k : WC P c Q w0 N env' hp') (h : Less env hp env' hp') : WC P c Q w0 N env hp := fun a w hh => k a w (hh.less h)
end
end Go.Sx
end
