/- The walk of (Calls).Next where there is the car, by hand (no statement stands here). -/
import Derived.Sort.CutIn
import Derived.Test.YthjmlmognbenoaaDoorNext
namespace Go.Proofs.YthjmlmognbenoaaDoor.PAll
open Go.RowKit Go.Shelf Go.Proofs.YthjmlmognbenoaaDoorW.PrintWords Go.Proofs.YthjmlmognbenoaaDoorW.PrintLast Go.Proofs.YthjmlmognbenoaaDoorW.PrintMore
attribute [local go_sem] Oper.semAt_some max_two min_two
set_option linter.unusedVariables false
set_option linter.unusedSimpArgs false
/-- One floor more: the nearest one so far, and how far it is. -/
def stepB (pos : Int) (s : Int × Int) (f : Nat) : Int × Int := if s.1 = -1 ∨ max ((f : Int) * 8 - pos) (pos - (f : Int) * 8) < s.2 then ((f : Int), max ((f : Int) * 8 - pos) (pos - (f : Int) * 8)) else s
def bestOf (pos : Int) (l : List Nat) : Int × Int := l.foldl (stepB pos) (-1, 0)
def firstOf : List Nat → Int
  | [] => -1
  | f :: _ => (f : Int)
def orElse (b : Int × Int) (f : Int) : Int := if b.1 = -1 then f else b.1
/-- What Next answers. -/
def nextI (own hl : Nat) (pos : Int) : Int := orElse (bestOf pos (floL own)) (firstOf (floL hl))
theorem max_as (x y : Int) : Builtin.max2 (.int .i64 x) (.int .i64 y) = pure (.int .i64 (max x y)) := by
  rw [max2_int]
  congr 2
  rw [Int.max_def]
  by_cases h : x < y
  · rw [if_pos h, if_pos (by omega)]
  · rw [if_neg h]
    by_cases h2 : x ≤ y
    · rw [if_pos h2]; omega
    · rw [if_neg h2]
/-- The floor f is the nearest one so far: both boxes are written. -/
theorem nextA {S G : Nat} {w W : World} {pos h f e : Int} {A1 : Option Addr} {n c0 : Nat} {s : Int × Int} (hs : s = (f, e)) (hGS : G + 3 ≤ S) (b d : Int) (i1 : Boxed W S 3 (.int .i64 b)) (i2 : Boxed W (S + 1) 3 (.int .i64 d)) (i3 : Below G w W) (i4 : Boxed W (G + 1) 3 (.int .i64 pos)) (i5 : Boxed W (G + 2) 3 (.int .i64 0)) (i6 : W.heap[G]? = some (.cells #[.int .u32 h, .slice A1 n c0] 27 (0, 0))) :
    KeepsFrom (S + 3) W ((W.setCell ⟨S, 0, none⟩ (.int .i64 f)).setCell ⟨S + 1, 0, none⟩ (.int .i64 e)) ∧ FlK G (S + 2) W ((W.setCell ⟨S, 0, none⟩ (.int .i64 f)).setCell ⟨S + 1, 0, none⟩ (.int .i64 e)) ∧
      (Boxed ((W.setCell ⟨S, 0, none⟩ (.int .i64 f)).setCell ⟨S + 1, 0, none⟩ (.int .i64 e)) S 3 (.int .i64 s.1) ∧ (Boxed ((W.setCell ⟨S, 0, none⟩ (.int .i64 f)).setCell ⟨S + 1, 0, none⟩ (.int .i64 e)) (S + 1) 3 (.int .i64 s.2) ∧ (Below G w ((W.setCell ⟨S, 0, none⟩ (.int .i64 f)).setCell ⟨S + 1, 0, none⟩ (.int .i64 e)) ∧ (Boxed ((W.setCell ⟨S, 0, none⟩ (.int .i64 f)).setCell ⟨S + 1, 0, none⟩ (.int .i64 e)) (G + 1) 3 (.int .i64 pos) ∧ (Boxed ((W.setCell ⟨S, 0, none⟩ (.int .i64 f)).setCell ⟨S + 1, 0, none⟩ (.int .i64 e)) (G + 2) 3 (.int .i64 0) ∧ ((W.setCell ⟨S, 0, none⟩ (.int .i64 f)).setCell ⟨S + 1, 0, none⟩ (.int .i64 e)).heap[G]? = some (.cells #[.int .u32 h, .slice A1 n c0] 27 (0, 0))))))) := by
  subst hs
  have key : ∀ (j : Nat), j ≠ S → j ≠ S + 1 → ((W.setCell ⟨S, 0, none⟩ (.int .i64 f)).setCell ⟨S + 1, 0, none⟩ (.int .i64 e)).heap[j]? = W.heap[j]? := fun j h1 h2 => (Below.heap_setCell _ _ _ _ (by show j ≠ S + 1; exact h2)).trans (Below.heap_setCell _ _ _ _ (by show j ≠ S; exact h1))
  refine ⟨((KeepsOthers.setCell W _ _).trans (KeepsOthers.setCell _ _ _)).from _, ⟨((Below.refl G W).setCell (p := ⟨S, 0, none⟩) (by show G ≤ S; omega) _).setCell (p := ⟨S + 1, 0, none⟩) (by show G ≤ S + 1; omega) _, key _ (by omega) (by omega)⟩, (i1.set _).other (by omega) _, (i2.other (by omega) _).set _, (i3.setCell (p := ⟨S, 0, none⟩) (by show G ≤ S; omega) _).setCell (p := ⟨S + 1, 0, none⟩) (by show G ≤ S + 1; omega) _, (key _ (by omega) (by omega)).trans i4, (key _ (by omega) (by omega)).trans i5, (key _ (by omega) (by omega)).trans i6⟩
theorem blkOwn {β : Type} (B : Nat) (cs : Array Value) (t : TypeId) : Own (fun (_ : β) (W : World) => W.heap[B]? = some (.cells cs t (0, 0))) :=
  fun _ W W' row hs hg hr => (hg.block B (Array.getElem?_eq_some_iff.1 hs).1 (fun e => by obtain ⟨o, ho, hc⟩ := hr B e.symm; rw [hs] at ho; cases ho; cases hc)).trans hs
theorem defOwn {β : Type} (B D : Nat) (hD : D < B) : OwnFrom B (fun (_ : β) (W : World) => W.heap[D]? = some (.deferred (some []))) :=
  fun _ W W' row hs hg hr => (hg.block D (Array.getElem?_eq_some_iff.1 hs).1 (fun e => by have := (hr D e.symm).1; omega)).trans hs
theorem nilOwn {β : Type} (B : Nat) (p : β → Prop) : OwnFrom B (fun (s : β) (_ : World) => p s) := fun _ _ _ _ hs _ _ => hs
theorem firstOf_nil : firstOf [] = -1 := rfl
theorem firstOf_cons (f : Nat) (r : List Nat) : firstOf (f :: r) = (f : Int) := rfl
theorem nextI_some {x y : Nat} {pos b d : Int} (h : bestOf pos (floL x) = (b, d)) (hb : b ≠ -1) : nextI x y pos = b := by unfold nextI orElse; rw [h, if_neg hb]
theorem nextI_none {x y : Nat} {pos d f : Int} (h : bestOf pos (floL x) = (-1, d)) (hf : firstOf (floL y) = f) : nextI x y pos = f := by unfold nextI orElse; rw [h, if_pos rfl, hf]
/-- The function's return, one mark deep. -/
theorem next_leave1 {n G D : Nat} {w W : World} {R : Ending → World → Prop} {tmps : Array Value} (v : Int) (ht : tmps.getD 8 undef = .pointer (some ⟨G + 2, 0, none⟩)) (hG : G = w.heap.size) (hGD : G ≤ D) (h5 : Boxed W (G + 2) 3 (.int .i64 v)) (h3 : Below G w W) (hK : W.heap[D]? = some (.deferred (some []))) (hR : ∀ W', Below w.heap.size w W' → R (.returned (.int .i64 v)) W') :
    bodyPostM Fence.wide n Tryd.prog Tryd.f16 R .ret { tmps := tmps, defers := [{ target := .collected D, args := #[] }] } W := by
  refine ⟨by simp, .inl ⟨_, _, rfl, run_takeDeferred hK, ?_⟩⟩
  have hne : D ≠ G + 2 := fun e => by rw [e] at hK; rw [show W.heap[G + 2]? = _ from h5] at hK; cases hK
  have h6 : Boxed (W.putObj D (.deferred none)) (G + 2) 3 (.int .i64 v) := (World.putObj_heap_other (fun e => hne e.symm)).trans h5
  refine ⟨_, results_cell_int rfl _ _ (G + 2) _ ht h6, ?_⟩
  subst hG
  exact hR _ (h3.trans (belowK_b (w := w) (Nat.le_refl _) W D _ _ hGD hK rfl rfl))
/-- The function's return, two marks deep. -/
theorem next_leave2 {n G D D2 : Nat} {w W : World} {R : Ending → World → Prop} {tmps : Array Value} {e : Exit} (he : e = .ret) (v : Int) (ht : tmps.getD 8 undef = .pointer (some ⟨G + 2, 0, none⟩)) (hG : G = w.heap.size) (hGD : G ≤ D) (hGD2 : G ≤ D2) (hne2 : D2 ≠ D) (h5 : Boxed W (G + 2) 3 (.int .i64 v)) (h3 : Below G w W) (hK : W.heap[D]? = some (.deferred (some []))) (hK2 : W.heap[D2]? = some (.deferred (some []))) (hR : ∀ W', Below w.heap.size w W' → R (.returned (.int .i64 v)) W') :
    bodyPostM Fence.wide n Tryd.prog Tryd.f16 R e { tmps := tmps, defers := [{ target := .collected D2, args := #[] }, { target := .collected D, args := #[] }] } W := by
  subst he
  refine ⟨by simp, .inl ⟨_, _, rfl, run_takeDeferred hK2, ?_⟩⟩
  have hne : D2 ≠ G + 2 := fun e => by rw [e] at hK2; rw [show W.heap[G + 2]? = _ from h5] at hK2; cases hK2
  have h6 : Boxed (W.putObj D2 (.deferred none)) (G + 2) 3 (.int .i64 v) := (World.putObj_heap_other (fun e => hne e.symm)).trans h5
  have hK3 : (W.putObj D2 (.deferred none)).heap[D]? = some (.deferred (some [])) := (World.putObj_heap_other (fun e => hne2 e.symm)).trans hK
  have h7 : Below G w (W.putObj D2 (.deferred none)) := by subst hG; exact h3.trans (belowK_b (w := w) (Nat.le_refl _) W D2 _ _ hGD2 hK2 rfl rfl)
  exact next_leave1 (n := n) v ht hG hGD h6 h7 hK3 hR
set_option maxRecDepth 100000 in
set_option maxHeartbeats 4000000 in
theorem Next_in (n : Nat) (hn : 5 ≤ n) (h halls pos : Int) (k : Nat) (x y : Nat) (A0 : Option Addr) (c0 : Nat) (l0 : List Int) (w : World) (hD : Deb w) (hr0 : Kd.C (Kd.int .u32) w A0 l0.length l0) (hc : l0.length ≤ c0) (hl : l0.length ≤ 1000000) (hk : k < l0.length) (hx : rd l0 (k : Int) = (x : Int)) (hx2 : x < 4294967296)
    (hy : Go.bits .and .u32 h halls = (y : Int)) (hy2 : y < 4294967296) (hp : 0 ≤ pos ∧ pos ≤ 1000000) :
    CallsIn Fence.wide n Tryd.prog 16 #[.agg #[.int .u32 h, .slice A0 l0.length c0], .int .i64 (k : Int), .int .i64 pos, .int .u32 halls] w fun e w' => e = .returned (.int .i64 (nextI x y pos)) ∧ Below w.heap.size w w' := by
  have hu27 := Tryd.underlying27
  have hu3 := Tryd.underlying3
  have hhas : calls_Calls_has.f h l0 (k : Int) = some true := by unfold calls_Calls_has.f; rw [if_pos (by omega), decide_eq_true (by omega)]
  have HR0 := Aside0.mk hr0
  have HC := Aside0.mk hc
  have HHAS := Aside0.mk hhas
  have HP := Aside0.mk hp
  have HD := Aside0.mk hD
  have hw0 : 0 < w.heap.size := by
    have := World.block_lt_of_cell? w _ (hD 0 (by omega))
    simpa using this
  obtain ⟨ad1, e1, hx1⟩ := Kd.at_int hr0 (k : Int) (by omega) (by omega)
  cases e1
  rw [Int.toNat_natCast, hx] at hx1
  have HX1 := Aside0.mk hx1
  have p1 : ((0 : Int) ≤ (k : Int)) = True := eq_true (by omega)
  have q1 : ((k : Int) < (l0.length : Int)) = True := eq_true (by omega)
  clear hr0 hc hhas hp hD hx1 hx
  refine callsIn_of_wp_marks Tryd.func16 rfl trivial ?_ rfl
  simp only [Tryd.ntmps16, List.size_toArray, List.length_cons, List.length_nil, Nat.reduceAdd, Nat.reduceSub, Array.replicate_succ, Array.replicate_zero, List.push_toArray, List.append_toArray, List.nil_append, List.cons_append]
  gi_upto_region 1 with (fail)
  obtain ⟨W, hW, hBc, hBp, hBr, hbl, hz⟩ := three_boxes w h pos (some ad1) l0.length c0
  rw [hW]
  clear hW
  have HRW := Aside0.mk (Kd.C_below HR0.out hbl)
  obtain ⟨G, hG⟩ : ∃ G, G = w.heap.size := ⟨_, rfl⟩
  have hG1 : w.heap.size + 1 = G + 1 := by rw [hG]
  have hG2 : w.heap.size + 2 = G + 2 := by rw [hG]
  have hG3 : w.heap.size + 1 + 1 = G + 2 := by rw [hG]
  simp only [hG1, hG2, hG3, ← hG] at hBc hBp hBr hbl hw0 ⊢
  have HSZ : Aside0 (G ≤ W.heap.size) := Aside0.mk (by omega)
  have HG := Aside0.mk hG
  have HBC := Aside0.mk hBc
  have HBR := Aside0.mk hBr
  have HBP := Aside0.mk hBp
  have HBL := Aside0.mk hbl
  have k0 := (blk_cell hBc 0).trans (rfl : _ = some (Value.int .u32 h))
  have k1 := (blk_cell hBc 1).trans (rfl : _ = some (Value.slice (some ad1) l0.length c0))
  clear hz hG hG1 hG2 hG3 hBc hBp hBr hbl
  gi_upto_region 4 with (first
    | (refine ⟨trivial, (fun h_ => by cases h_), ?_⟩; gi_at_call 23; refine (callsIn_wide.2 (calls_Calls_has.calls h (some ad1) c0 l0 (k : Int) true _ HRW.out HC.out HHAS.out)).mono ?_; rintro e w4 ⟨rfl, hb4⟩; have HBL4 := Aside0.mk (HBL.out.trans (hb4.mono HSZ.out)); have HR4 : Aside0 (Boxed w4 (G + 2) 3 (.int .i64 0)) := Aside0.mk ((hb4.block _ HBR.out.lt).trans HBR.out); have HP4 : Aside0 (Boxed w4 (G + 1) 3 (.int .i64 pos)) := Aside0.mk ((hb4.block _ HBP.out.lt).trans HBP.out); have HC4 := Aside0.mk (blk_below HBC.out hb4); clear hb4 k0 k1))
  have hsz4 : G + 3 ≤ w4.heap.size := by have := HR4.out.lt; omega
  have b1 := (Boxed.new w4 3 (.int .i64 (-1))).alloc (.cells #[.int .i64 0] 3)
  have b2 := Boxed.new (w4.alloc (.cells #[.int .i64 (-1)] 3)) 3 (.int .i64 0)
  rw [World.size_alloc] at b2
  have b3 := (HP4.out.alloc (.cells #[.int .i64 (-1)] 3)).alloc (.cells #[.int .i64 0] 3)
  have b4 := (HR4.out.alloc (.cells #[.int .i64 (-1)] 3)).alloc (.cells #[.int .i64 0] 3)
  have b5 := blk_alloc (blk_alloc HC4.out (.cells #[.int .i64 (-1)] 3)) (.cells #[.int .i64 0] 3)
  have b6 : Below G w ((w4.alloc (.cells #[.int .i64 (-1)] 3)).alloc (.cells #[.int .i64 0] 3)) := (HBL4.out.alloc (by omega) _).alloc (by rw [World.size_alloc]; omega) _
  have hz5 : ((w4.alloc (.cells #[.int .i64 (-1)] 3)).alloc (.cells #[.int .i64 0] 3)).heap.size = w4.heap.size + 2 := by simp
  generalize (w4.alloc (.cells #[.int .i64 (-1)] 3)).alloc (.cells #[.int .i64 0] 3) = W5 at b1 b2 b3 b4 b5 b6 hz5 ⊢
  generalize w4.heap.size = S at b1 b2 hsz4 hz5 ⊢
  have k1 := (blk_cell b5 1).trans (rfl : _ = some (Value.slice (some ad1) l0.length c0))
  have hx5 : W5.cell? (ad1.add k) = some (.int .u32 (x : Int)) := (b6.cell (by rw [HG.out]; exact World.block_lt_of_cell? w _ HX1.out)).trans HX1.out
  have B1 := Aside0.mk b1
  have B2 := Aside0.mk b2
  have B3 := Aside0.mk b3
  have B4 := Aside0.mk b4
  have B5 := Aside0.mk b5
  have B6 := Aside0.mk b6
  have HZ5 := Aside0.mk hz5
  clear b1 b2 b3 b4 b5 b6 hz5
  gi_wp2_with (first
    | (refine ⟨trivial, (fun h_ => by cases h_), ?_⟩; gi_at_call 24; refine (callsIn_wide.2 (floors_calls (x : Int) W5)).mono ?_; rintro e w6 ⟨rfl, rfl⟩))
  have hz6 : (W5.alloc (.cells #[.int .u32 (x : Int)] 23)).heap.size = S + 3 := by rw [World.size_alloc, HZ5.out]
  have b7 := Boxed.new W5 23 (.int .u32 (x : Int))
  have b1 := B1.out.alloc (.cells #[.int .u32 (x : Int)] 23)
  have b2 := B2.out.alloc (.cells #[.int .u32 (x : Int)] 23)
  have b3 := B3.out.alloc (.cells #[.int .u32 (x : Int)] 23)
  have b4 := B4.out.alloc (.cells #[.int .u32 (x : Int)] 23)
  have b5 := blk_alloc B5.out (.cells #[.int .u32 (x : Int)] 23)
  have b6 : Below G w (W5.alloc (.cells #[.int .u32 (x : Int)] 23)) := B6.out.alloc (by rw [HZ5.out]; omega) _
  have hz5 := HZ5.out
  simp only [hz5] at b7 ⊢
  generalize W5.alloc (.cells #[.int .u32 (x : Int)] 23) = W6 at b1 b2 b3 b4 b5 b6 b7 hz6 ⊢
  have hD6 : Deb W6 := HD.out.below (n₀ := G) hw0 b6
  refine wpIn_rangeFunc_turns (F := Fence.wide) rfl (by omega) (gf := 26) (lb := #[.pointer (some ⟨S + 2, 0, none⟩)]) rfl trivial (enters_of Tryd.func26 (by kernel_rfl) rfl)
    (floors1_turns (n - 1) (by omega) (S + 2) G x hx2 hw0 (by omega) W6 hD6 b7) (by omega) FlK.t (FlK.b (by omega) (by omega)) (Below.refl _ _) (fun _ => rfl)
    (fun (pre : List (Fin 32)) W => Boxed W S 3 (.int .i64 (bestOf pos (pre.map (·.val))).1) ∧ (Boxed W (S + 1) 3 (.int .i64 (bestOf pos (pre.map (·.val))).2) ∧ (Below G w W ∧ (Boxed W (G + 1) 3 (.int .i64 pos) ∧ (Boxed W (G + 2) 3 (.int .i64 0) ∧ W.heap[G]? = some (.cells #[.int .u32 h, .slice (some ad1) l0.length c0] 27 (0, 0)))))))
    (fun _ _ _ => False)
    (OwnFrom.and (Own.from (boxed_own S 3 (fun pre : List (Fin 32) => Value.int .i64 (bestOf pos (pre.map (·.val))).1)) _) (OwnFrom.and (Own.from (boxed_own (S + 1) 3 (fun pre : List (Fin 32) => Value.int .i64 (bestOf pos (pre.map (·.val))).2)) _) (OwnFrom.and (ownFrom_below (by have := HG.out; omega) (by omega)) (OwnFrom.and (Own.from (boxed_own _ _ (fun _ => _)) _) (OwnFrom.and (Own.from (boxed_own _ _ (fun _ => _)) _) (Own.from (blkOwn _ _ _) _))))))
    (fun _ _ _ _ _ hs _ _ => hs)
    (fun pre X v hi => ⟨hi.1.other (by omega) v, hi.2.1.other (by omega) v, hi.2.2.1.setCell (p := ⟨S + 2, 0, none⟩) (by show G ≤ S + 2; omega) v, hi.2.2.2.1.other (by omega) v, hi.2.2.2.2.1.other (by omega) v, (Below.heap_setCell _ _ _ _ (by show G ≠ S + 2; omega)).trans hi.2.2.2.2.2⟩)
    ⟨b1, b2, b6, b3, b4, b5⟩
    (fun f : Fin 32 => { tmps := #[Value.agg #[Value.int .u32 h, Value.slice (some ad1) l0.length c0], Value.int .i64 (k : Int), Value.int .i64 pos, Value.int .u32 halls, Value.pointer (some ⟨G, 0, none⟩), undef, Value.pointer (some ⟨G + 1, 0, none⟩), undef, Value.pointer (some ⟨G + 1 + 1, 0, none⟩), Value.pointer (some ⟨S, 0, none⟩), Value.pointer (some ⟨S + 1, 0, none⟩), Value.int .i64 (f.val : Int), undef, undef, Value.agg #[Value.int .u32 h, Value.slice (some ad1) l0.length c0], Value.int .i64 (k : Int), Value.bool true, Value.bool false, Value.pointer (some ⟨G, 1, none⟩), Value.slice (some ad1) l0.length c0, Value.int .i64 (k : Int), Value.pointer (some (ad1.add k)), Value.int .u32 (x : Int), Value.func (Fn.func 26) #[] #[Value.pointer (some ⟨S + 2, 0, none⟩)], Value.int .i64 (f.val : Int), undef, undef, undef, undef, undef, undef, undef, undef, undef, undef, undef, undef, undef, undef, undef, undef, undef, undef, undef, undef, undef, undef, undef, undef, undef, undef, undef, undef], defers := [] }) ?assign ?body ?done ?stop
  case assign =>
    intro l f W K hK
    gi_wp2
    exact hK
  case body =>
    rintro l pre f W ⟨i1, i2, i3, i4, i5, i6⟩
    have hbest : bestOf pos ((pre ++ [f]).map (·.val)) = stepB pos (bestOf pos (pre.map (·.val))) f.val := by simp [bestOf, List.foldl_append]
    generalize bestOf pos (pre.map (·.val)) = s at i1 i2 hbest
    obtain ⟨b, d⟩ := s
    have HI1 := Aside0.mk i1
    have HI2 := Aside0.mk i2
    have HI3 := Aside0.mk i3
    have HI4 := Aside0.mk i4
    have HI5 := Aside0.mk i5
    have HI6 := Aside0.mk i6
    have c1 := i1.cell
    have g1 := i1.frozen
    have c2 := i2.cell
    have g2 := i2.frozen
    have c4 := i4.cell
    have HBE := Aside0.mk hbest
    have hf := f.isLt
    have hpp := HP.out
    have w1 : wrap64 ((f.val : Int) * 8) = (f.val : Int) * 8 := by unfold wrap64; omega
    have w2 : wrap64 ((f.val : Int) * 8 - pos) = (f.val : Int) * 8 - pos := by unfold wrap64; omega
    have w3 : wrap64 (pos - (f.val : Int) * 8) = pos - (f.val : Int) * 8 := by unfold wrap64; omega
    have w4 := (i64_w ((f.val : Int) * 8)).trans w1
    have w5 := (i64_w ((f.val : Int) * 8 - pos)).trans w2
    have w6 := (i64_w (pos - (f.val : Int) * 8)).trans w3
    have hm := max_as ((f.val : Int) * 8 - pos) (pos - (f.val : Int) * 8)
    have hst : stepB pos (b, d) f.val = if b = -1 ∨ max ((f.val : Int) * 8 - pos) (pos - (f.val : Int) * 8) < d then ((f.val : Int), max ((f.val : Int) * 8 - pos) (pos - (f.val : Int) * 8)) else (b, d) := rfl
    generalize max ((f.val : Int) * 8 - pos) (pos - (f.val : Int) * 8) = e at hm hst
    rw [← hbest] at hst
    clear i1 i2 i3 i4 i5 i6 hbest hpp hf
    by_cases hb1 : b = -1
    · subst hb1
      rw [if_pos (Or.inl rfl)] at hst
      have HST := Aside0.mk hst
      clear hst
      gi_wp2
      exact nextA HST.out hsz4 _ _ HI1.out HI2.out HI3.out HI4.out HI5.out HI6.out
    · have hbe : (b == -1) = false := by simpa using hb1
      by_cases hd : e < d
      · rw [if_pos (Or.inr hd)] at hst
        have HST := Aside0.mk hst
        have hde : decide (e < d) = true := decide_eq_true hd
        clear hst hd hb1
        gi_wp2
        exact nextA HST.out hsz4 _ _ HI1.out HI2.out HI3.out HI4.out HI5.out HI6.out
      · rw [if_neg (by omega)] at hst
        have HST := Aside0.mk hst
        have hde : decide (e < d) = false := decide_eq_false hd
        clear hst hd hb1
        gi_wp2
        refine ⟨(KeepsOthers.refl W).from _, ⟨Below.refl G W, rfl⟩, ?_⟩
        show Boxed W S 3 (.int .i64 (bestOf pos ((pre ++ [f]).map (·.val))).1) ∧ Boxed W (S + 1) 3 (.int .i64 (bestOf pos ((pre ++ [f]).map (·.val))).2) ∧ _
        rw [HST.out]
        exact ⟨HI1.out, HI2.out, HI3.out, HI4.out, HI5.out, HI6.out⟩
  case done =>
    rintro D ys W hD hS ⟨i1, i2, i3, i4, i5, i6⟩ hK
    rw [hS] at i1 i2
    generalize hbo : bestOf pos (floL x) = s at i1 i2
    obtain ⟨b, d⟩ := s
    have HBO := Aside0.mk hbo
    have HI3 := Aside0.mk i3
    have HI5 := Aside0.mk i5
    have HI6 := Aside0.mk i6
    have HK := Aside0.mk hK
    have c1 := i1.cell
    have g5 := i5.frozen
    have c5 := i5.cell
    have k0 := (blk_cell i6 0).trans (rfl : _ = some (Value.int .u32 h))
    clear i2 i3 i4 i5 i6 hbo hK hS
    by_cases hb1 : b = -1
    · subst hb1
      gi_wp2_with (first
        | (refine ⟨trivial, (fun h_ => by cases h_), ?_⟩; gi_at_call 24; refine (callsIn_wide.2 (floors_calls (y : Int) W)).mono ?_; rintro e w6 ⟨rfl, rfl⟩))
      have b7 := Boxed.new W 23 (.int .u32 (y : Int))
      have b5 := HI5.out.alloc (.cells #[.int .u32 (y : Int)] 23)
      have hZG : G + 3 ≤ W.heap.size := by have := HI5.out.lt; omega
      have hZD : D < W.heap.size := (Array.getElem?_eq_some_iff.1 HK.out).1
      have b6 : Below G w (W.alloc (.cells #[.int .u32 (y : Int)] 23)) := HI3.out.alloc (by omega) _
      have b8 : (W.alloc (.cells #[.int .u32 (y : Int)] 23)).heap[D]? = some (.deferred (some [])) := (Below.heap_alloc W _ D hZD).trans HK.out
      have hz7 : (W.alloc (.cells #[.int .u32 (y : Int)] 23)).heap.size = W.heap.size + 1 := World.size_alloc _ _
      generalize W.alloc (.cells #[.int .u32 (y : Int)] 23) = W7 at b5 b6 b7 b8 hz7 ⊢
      obtain ⟨Z, hZ⟩ : ∃ Z, Z = W.heap.size := ⟨_, rfl⟩
      simp only [← hZ] at b7 hz7 hZG hZD ⊢
      have hD7 : Deb W7 := HD.out.below (n₀ := G) hw0 b6
      have c2 : G ≤ D := by omega
      clear HI3 HI5 HI6 HK c1 c5 k0
      refine wpIn_rangeFunc_turns (F := Fence.wide) rfl (by omega) (gf := 26) (lb := #[.pointer (some ⟨Z, 0, none⟩)]) rfl trivial (enters_of Tryd.func26 (by kernel_rfl) rfl)
        (floors1_turns (n - 1) (by omega) Z G y hy2 hw0 (by omega) W7 hD7 b7) (by omega) FlK.t (FlK.b (by omega) (by omega)) (Below.refl _ _) (fun _ => rfl)
        (fun (pre : List (Fin 32)) W => pre = [] ∧ (Boxed W (G + 2) 3 (.int .i64 0) ∧ (Below G w W ∧ W.heap[D]? = some (.deferred (some [])))))
        (fun c (pre : List (Fin 32)) W => (c = .ret ∧ ∃ f : Fin 32, pre = [f]) ∧ (Boxed W (G + 2) 3 (.int .i64 (firstOf (pre.map (·.val)))) ∧ (Below G w W ∧ W.heap[D]? = some (.deferred (some [])))))
        (OwnFrom.and (nilOwn _ _) (OwnFrom.and (Own.from (boxed_own _ _ (fun _ => _)) _) (OwnFrom.and (ownFrom_below (by have := HG.out; omega) (by omega)) (defOwn _ D (by omega)))))
        (fun c => OwnFrom.and (nilOwn _ _) (OwnFrom.and (Own.from (boxed_own (G + 2) 3 (fun pre : List (Fin 32) => Value.int .i64 (firstOf (pre.map (·.val))))) _) (OwnFrom.and (ownFrom_below (by have := HG.out; omega) (by omega)) (defOwn _ D (by omega)))))
        (fun pre X v hi => ⟨hi.1, hi.2.1.other (by omega) v, hi.2.2.1.setCell (p := ⟨Z, 0, none⟩) (by show G ≤ Z; omega) v, (Below.heap_setCell _ _ _ _ (by show D ≠ Z; omega)).trans hi.2.2.2⟩)
        ⟨rfl, b5, b6, b8⟩
        (fun f : Fin 32 => { tmps := #[Value.agg #[Value.int .u32 h, Value.slice (some ad1) l0.length c0], Value.int .i64 (k : Int), Value.int .i64 pos, Value.int .u32 halls, Value.pointer (some ⟨G, 0, none⟩), undef, Value.pointer (some ⟨G + 1, 0, none⟩), undef, Value.pointer (some ⟨G + 1 + 1, 0, none⟩), Value.pointer (some ⟨S, 0, none⟩), Value.pointer (some ⟨S + 1, 0, none⟩), undef, undef, Value.int .i64 (f.val : Int), Value.agg #[Value.int .u32 h, Value.slice (some ad1) l0.length c0], Value.int .i64 (k : Int), Value.bool true, Value.bool false, Value.pointer (some ⟨G, 1, none⟩), Value.slice (some ad1) l0.length c0, Value.int .i64 (k : Int), Value.pointer (some (ad1.add k)), Value.int .u32 (x : Int), Value.func (Fn.func 26) #[] #[Value.pointer (some ⟨S + 2, 0, none⟩)], undef, undef, undef, undef, undef, undef, undef, undef, undef, undef, undef, undef, undef, undef, undef, undef, undef, undef, undef, Value.int .i64 (-1), Value.bool false, undef, Value.pointer (some ⟨G, 0, none⟩), Value.int .u32 h, Value.int .u32 halls, Value.int .u32 (y : Int), Value.func (Fn.func 26) #[] #[Value.pointer (some ⟨Z, 0, none⟩)], Value.int .i64 (f.val : Int), undef], defers := [] }) ?assign2 ?body2 ?done2 ?stop2
      case assign2 =>
        intro l f W K hK
        gi_wp2
        rw [hZ] at hK
        exact hK
      case body2 =>
        rintro l pre f W ⟨rfl, j5, j6, j8⟩
        have g5 := j5.frozen
        have c5 := j5.cell
        have J5 := Aside0.mk j5
        have J6 := Aside0.mk j6
        have J8 := Aside0.mk j8
        clear j5 j6 j8
        gi_wp2
        exact ⟨(KeepsOthers.setCell W _ _).from _, ⟨rfl, f, rfl⟩, J5.out.set _, J6.out.setCell (p := ⟨G + 2, 0, none⟩) (by show G ≤ G + 2; omega) _, (Below.heap_setCell _ _ _ _ (by show D ≠ G + 2; intro e; have h1 := J8.out; rw [e] at h1; rw [show W.heap[G + 2]? = _ from J5.out] at h1; cases h1)).trans J8.out⟩
      case done2 =>
        rintro D2 zs W hD2 hS2 ⟨rfl, j5, j6, j8⟩ hK2
        have g5 := j5.frozen
        have c5 := j5.cell
        have J5 := Aside0.mk j5
        have J6 := Aside0.mk j6
        have J8 := Aside0.mk j8
        have JK := Aside0.mk hK2
        have JS := Aside0.mk hS2
        clear j5 j6 j8 hK2 hS2
        gi_wp2
        refine next_leave2 rfl (-1) rfl HG.out c2 (by omega) (by omega) (J5.out.set _) (J6.out.setCell (p := ⟨G + 2, 0, none⟩) (by show G ≤ G + 2; omega) _) ?_ ?_ (fun W' hb => ⟨by rw [nextI_none HBO.out (f := -1) (by rw [← JS.out]; rfl)], hb⟩)
        · exact (KeepsOthers.setCell W _ _).same _ _ J8.out rfl
        · exact (KeepsOthers.setCell W _ _).same _ _ JK.out rfl
      case stop2 =>
        rintro D2 c zs W hD2 ⟨hne, rest, hS2⟩ ⟨⟨rfl, f, rfl⟩, j5, j6, j8⟩ hK2
        have J5 := Aside0.mk j5
        have J6 := Aside0.mk j6
        have J8 := Aside0.mk j8
        have JK := Aside0.mk hK2
        have JS := Aside0.mk hS2
        clear j5 j6 j8 hK2 hS2 hne
        gi_wp2
        refine next_leave2 rfl (f.val : Int) rfl HG.out c2 (by omega) (by omega) J5.out J6.out J8.out JK.out (fun W' hb => ⟨by rw [nextI_none HBO.out (f := (f.val : Int)) (by rw [JS.out]; rfl)], hb⟩)
    · have hbe : (b == -1) = false := by simpa using hb1
      have hbe2 : (b != -1) = true := by simpa using hb1
      have HB1 := Aside0.mk hb1
      clear hb1
      gi_wp2
      have c2 : G ≤ D := by omega
      refine next_leave1 b rfl HG.out c2 (HI5.out.set _) (HI3.out.setCell (p := ⟨G + 2, 0, none⟩) (by show G ≤ G + 2; omega) _) ?_ (fun W' hb => ⟨by rw [nextI_some HBO.out HB1.out], hb⟩)
      exact (KeepsOthers.setCell W _ _).same _ _ HK.out rfl
  case stop =>
    rintro D c pre W _ _ h _
    exact h.elim
end Go.Proofs.YthjmlmognbenoaaDoor.PAll
