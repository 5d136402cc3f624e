/- A range over an iterator that writes a box of its own between two rounds (no statement stands here). -/
import Derived.RangeFuncNested
import Derived.RangeFuncBound
import Derived.RangeFuncCalls
import Derived.RangeFuncLeaves
import Derived.Shelf.Abstract
import Derived.Shelf.RegionOpen
import Derived.WalkKit
import Derived.OwnWalkIn
import Derived.TacticsInMore
import Derived.LoopNIn
import Derived.LoopIn
namespace Go.Proofs.YthjmlmognbenoaaDoor.PAll
open Go.RowKit Go.Shelf
set_option linter.unusedVariables false
variable {F : Fence} {n : Nat} {P : Program}
/-- The iterator's word: block B, one cell, is its own, and turns between two rounds. -/
def SeqTurns {α : Type} (F : Fence) (n : Nat) (P : Program) (g : Nat) (lb : Array Value) (encs : α → Array Value) (Kp : World → World → Prop) (B : Nat) (S Sp : List α → Prop) (w : World) : Prop :=
  ∀ (l : Nat) (J Jx : List α → World → Prop) (W : World), Below w.heap.size w W → AbidesFrom W.heap.size J → AbidesFrom W.heap.size Jx →
    (∀ pre X v, J pre X → J pre (X.setCell ⟨B, 0, none⟩ v)) →
    (∀ pre x W1, J pre W1 → YieldAt F (n - 1) P l (encs x) W1 fun e W' => (e = .returned (.bool true) ∧ J (pre ++ [x]) W' ∧ Kp W1 W') ∨ (e = .returned (.bool false) ∧ Jx (pre ++ [x]) W')) →
    J [] W →
    CallsIn F n P g (#[.func (.yield l) #[] #[]] ++ lb) W fun e W' => (∃ v, e = .returned v) ∧ ((∃ xs, S xs ∧ J xs W') ∨ (∃ pre, Sp pre ∧ Jx pre W'))
/-- The statement over such an iterator: the caller's word abides the turns of block B, which lay ahead of the loop. -/
theorem wpIn_rangeFunc_turns {α : Type} {g : Operand} {ps : Array Tmp} {assign body : Code} {Q : Exit → Act → World → Prop} {a : Act} {w : World}
    (hro : F.round = none) (h1 : 1 ≤ n) {gf : Nat} {lb : Array Value} (hg : a.eval g = .func (.func gf) #[] lb) (hFg : F.fn gf) (eg : ∀ args w, (callFunc gf args).run P w = .ok (.enter gf args) w)
    {encs : α → Array Value} {Kp : World → World → Prop} {B : Nat} {S Sp : List α → Prop} {w0 : World} (hseq : SeqTurns F (n - 1) P gf lb encs Kp B S Sp w0) (hBlt : B < w.heap.size)
    (hKt : ∀ {X Y Z : World}, Kp X Y → Kp Y Z → Kp X Z) (hKb : ∀ (W : World) (l : Nat) (o o' : Obj), w.heap.size ≤ l → W.heap[l]? = some o → o.isCells = false → o.isWalk = false → Kp W (W.putObj l o')) (hb0 : Below w0.heap.size w0 w) (hps : ∀ x, (encs x).size = ps.size)
    (I : List α → World → Prop) (Ix : Code → List α → World → Prop) (hI : OwnFrom w.heap.size I) (hIx : ∀ c, OwnFrom w.heap.size (Ix c)) (hIB : ∀ pre X v, I pre X → I pre (X.setCell ⟨B, 0, none⟩ v)) (h0 : I [] w) (a₁ : α → Act)
    (hassign : ∀ (l : Nat) (x : α) (W : World) (K : Act → World → Prop), K (a₁ x) W →
      assign.wpIn (F.inRound l) (n - 1 - 1) P (Exit.then K (fun _ _ _ => False)) { tmps := (ps.zip (encs x)).foldl (fun t (p, v) => t.setIfInBounds p v) a.tmps, defers := [] } W)
    (hbody : ∀ (l : Nat) (pre : List α) (x : α) (W : World), I pre W → body.wpIn (F.inRound l) (n - 1 - 1) P (ownPostG w.heap.size Kp I Ix (pre ++ [x]) W) (a₁ x) W)
    (hdone : ∀ (D : Nat) (xs : List α) (W : World), w.heap.size ≤ D → S xs → I xs W → W.heap[D]? = some (.deferred (some [])) → Q .normal { a with defers := { target := .collected D, args := #[] } :: a.defers } W)
    (hstop : ∀ (D : Nat) (c : Code) (pre : List α) (W : World), w.heap.size ≤ D → Sp pre → Ix c pre W → W.heap[D]? = some (.deferred (some [])) → c.wpIn F n P Q { a with defers := { target := .collected D, args := #[] } :: a.defers } W) :
    (Code.rangeFunc g ps assign body).wpIn F n P Q a w := by
  refine wpIn_rangeFunc ?_
  intro fn hfn
  rw [hro]
  obtain ⟨s, hs⟩ : ∃ s, w.heap.size = s := ⟨_, rfl⟩
  obtain ⟨rec, hrec⟩ : ∃ rec : LoopState → Option Code → Loop, rec = fun st pe => { state := st, pending := pe, fn, tmps := a.tmps, params := ps, assign, body, defers := s } := ⟨_, rfl⟩
  obtain ⟨W1, hW1⟩ : ∃ W1, (w.alloc (.deferred (some []))).alloc (.loop (rec .ready none)) = W1 := ⟨_, rfl⟩
  have hz : W1.heap.size = s + 2 := by rw [← hW1]; simp; omega
  have hL1 : W1.heap[s + 1]? = some (.loop (rec .ready none)) := by
    have := World.alloc_heap_new (w.alloc (.deferred (some []))) (.loop (rec .ready none))
    rwa [World.size_alloc, hW1, hs] at this
  have hD1 : W1.heap[s]? = some (.deferred (some [])) := by
    rw [← hW1, ← hs]; exact (Below.heap_alloc _ _ _ (by simp)).trans (World.alloc_heap_new w _)
  have hI1 : I [] W1 := by rw [← hW1]; exact hI.alloc _ (hI.alloc _ h0)
  have hb1 : Below w0.heap.size w0 W1 := by
    rw [← hW1]; exact hb0.trans ((((Below.refl _ w).alloc (Nat.le_refl _) _).alloc (by simp) _).mono hb0.size)
  rw [hs] at hI hIx hBlt hKb hbody hdone hstop
  -- what the record's and the block's two facts abide
  have hput : ∀ (k : Nat) (o o' : Obj) (W : World), k ≠ s → W.heap[s]? = some o → (W.putObj k o').heap[s]? = some o := fun k o o' W hk h => (World.putObj_heap_other (fun e => hk e.symm)).trans h
  refine ⟨s + 1, [{ target := .collected s, args := #[] }], W1, { target := .fn (.func gf) lb, args := #[.func (.yield (s + 1)) #[] #[]] }, W1, gf, #[.func (.yield (s + 1)) #[] #[]] ++ lb, W1, ?_, ?_, ?_, ?_, fun _ => h1, ?_⟩
  · rw [← hW1, hrec, ← hs]; exact run_enterLoop_outer _ _ _ _ _
  · simp only [resolve, hg]
    simp [go_sem]
  · intro f' hf'; simp [Target.leads] at hf'; subst hf'; exact hFg
  · simp [invoke, go_sem, eg]
  · have far : ∀ {A : World} {row : Option Nat}, (∀ r, row = some r → W1.heap.size ≤ r ∧ ∃ o : Obj, A.heap[r]? = some o ∧ o.isWalk = true) → (∀ r, row = some r → s ≤ r ∧ ∃ o : Obj, A.heap[r]? = some o ∧ o.isCells = false) :=
      fun hr r e => by obtain ⟨hB, o, ho, hw⟩ := hr r e; exact ⟨by omega, o, ho, Obj.not_cells_of_walk hw⟩
    refine (hseq (s + 1)
      (fun pre W => I pre W ∧ W.heap[s + 1]? = some (.loop (rec .ready none)) ∧ W.heap[s]? = some (.deferred (some [])))
      (fun pre W => ∃ c, Ix c pre W ∧ W.heap[s + 1]? = some (.loop (rec .done (some c))) ∧ W.heap[s]? = some (.deferred (some [])))
      W1 hb1 ?_ ?_ ?_ ?_ ⟨hI1, hL1, hD1⟩).mono ?_
    · rintro pre A A' row ⟨i1, i2, i3⟩ hg' hr
      exact ⟨hI pre A A' row i1 hg' (far hr), (grownBy_keeps hg' (fun r e => (hr r e).2) i2 rfl).trans i2, (grownBy_keeps hg' (fun r e => (hr r e).2) i3 rfl).trans i3⟩
    · rintro pre A A' row ⟨c, i1, i2, i3⟩ hg' hr
      exact ⟨c, hIx c pre A A' row i1 hg' (far hr), (grownBy_keeps hg' (fun r e => (hr r e).2) i2 rfl).trans i2, (grownBy_keeps hg' (fun r e => (hr r e).2) i3 rfl).trans i3⟩
    · rintro pre X v ⟨i1, i2, i3⟩
      exact ⟨hIB pre X v i1, (Below.heap_setCell _ _ _ _ (by show s + 1 ≠ B; omega)).trans i2, (Below.heap_setCell _ _ _ _ (by show s ≠ B; omega)).trans i3⟩
    · rintro pre x W ⟨i1, i2, i3⟩
      have hlt : s + 1 < W.heap.size := (Array.getElem?_eq_some_iff.1 i2).1
      have hy := run_yield (P := P) (args := encs x) i2 (by rw [hrec]; exact hps x)
      rw [hrec] at hy
      refine ⟨fn, _, assign, body, hy, roundIn_of_wpIn hfn (hassign _ x W _ ⟨_, run_beginRound i2 (by rw [hrec]), ?_⟩)⟩
      obtain ⟨W2, hW2⟩ : ∃ W2, W.putObj (s + 1) (.loop { rec .ready none with state := .busy }) = W2 := ⟨_, rfl⟩
      have j1 : I pre W2 := by rw [← hW2]; exact hI.putObj _ i1 (by omega) i2 rfl
      have j2 : W2.heap[s + 1]? = some (.loop { rec .ready none with state := .busy }) := by rw [← hW2]; exact World.putObj_heap_same hlt
      have j3 : W2.heap[s]? = some (.deferred (some [])) := by rw [← hW2]; exact hput _ _ _ _ (by omega) i3
      have j4 : Kp W W2 := by rw [← hW2]; exact hKb _ _ _ _ (by omega) i2 rfl rfl
      have bd := hbody (s + 1) pre x W2 j1
      rw [← hW2] at bd
      refine wpIn_mono bd ?_
      rw [hW2]
      have fin : ∀ (jump : Option Code) (W3 : World), KeepsFrom s W2 W3 →
          (Instr.endRound (s + 1) jump).run P W3 = .ok (.bool jump.isNone) (W3.putObj (s + 1) (.loop (rec (if jump.isNone then .ready else .done) jump))) ∧
          W3.heap[s + 1]? = some (.loop { rec .ready none with state := .busy }) ∧
          (W3.putObj (s + 1) (.loop (rec (if jump.isNone then .ready else .done) jump))).heap[s + 1]? = some (.loop (rec (if jump.isNone then .ready else .done) jump)) ∧
          (W3.putObj (s + 1) (.loop (rec (if jump.isNone then .ready else .done) jump))).heap[s]? = some (.deferred (some [])) := fun jump W3 hk3 => by
        have hl3 := hk3.same _ _ (by omega) j2 rfl
        have hr := run_endRound (P := P) jump hl3
        rw [hrec] at hr ⊢
        exact ⟨hr, by rw [hrec] at hl3; exact hl3, World.putObj_heap_same (Array.getElem?_eq_some_iff.1 hl3).1, hput _ _ _ _ (by omega) (hk3.same _ _ (Nat.le_refl _) j3 rfl)⟩
      have out : ∀ (c : Code) (W3 : World), KeepsFrom s W2 W3 → Ix c (pre ++ [x]) W3 → ∃ c', Ix c' (pre ++ [x]) (W3.putObj (s + 1) (.loop (rec .done (some c)))) ∧ (W3.putObj (s + 1) (.loop (rec .done (some c)))).heap[s + 1]? = some (.loop (rec .done (some c'))) ∧ (W3.putObj (s + 1) (.loop (rec .done (some c)))).heap[s]? = some (.deferred (some [])) := fun c W3 hk3 hi3 => by
        obtain ⟨_, hl3, hl4, hd4⟩ := fin (some c) W3 hk3
        exact ⟨c, (hIx c).putObj _ hi3 (by omega) hl3 rfl, hl4, hd4⟩
      rintro e a3 W3 hp
      cases e with
      | normal =>
        obtain ⟨hk3, hkp3, hi3⟩ := hp
        obtain ⟨hr, hl3, hl4, hd4⟩ := fin none W3 hk3
        exact ⟨_, _, hr, .inl ⟨rfl, ⟨hI.putObj _ hi3 (by omega) hl3 rfl, hl4, hd4⟩, hKt (hKt j4 hkp3) (hKb _ _ _ _ (by omega) hl3 rfl rfl)⟩⟩
      | ret => exact ⟨_, _, (fin (some .ret) W3 hp.1).1, .inr ⟨rfl, out .ret W3 hp.1 hp.2⟩⟩
      | exit id => exact ⟨_, _, (fin (some (.exit id)) W3 hp.1).1, .inr ⟨rfl, out (.exit id) W3 hp.1 hp.2⟩⟩
      | goto t => exact ⟨_, _, (fin (some (.goto t)) W3 hp.1).1, .inr ⟨rfl, out (.goto t) W3 hp.1 hp.2⟩⟩
      | panic ch => exact hp.elim
      | outgrown => exact hp.elim
    · rintro e W2 ⟨⟨v, rfl⟩, (⟨xs, hS, hi, hl, hk⟩ | ⟨pre, hSp, c, hi, hl, hk⟩)⟩
      · refine ⟨none, _, by have := run_endLoop (P := P) hl (by rw [hrec]; simp); rw [hrec] at this; exact this, hdone s xs _ (Nat.le_refl _) hS (hI.putObj _ hi (by omega) hl rfl) (hput _ _ _ _ (by omega) hk)⟩
      · refine ⟨some c, _, by have := run_endLoop (P := P) hl (by rw [hrec]; simp); rw [hrec] at this; exact this, hstop s c pre _ (Nat.le_refl _) hSp ((hIx c).putObj _ hi (by omega) hl rfl) (hput _ _ _ _ (by omega) hk)⟩
end Go.Proofs.YthjmlmognbenoaaDoor.PAll
