/- The walk of (Calls).Next, by hand (no statement stands here). -/
import Derived.Test.YthjmlmognbenoaaDoorFloW
import Derived.Test.YthjmlmognbenoaaDoorHall
import Derived.Test.YthjmlmognbenoaaDoorPAllx5
namespace Go.Proofs.YthjmlmognbenoaaDoor.PAll
open Go.RowKit Go.Shelf Go.Proofs.YthjmlmognbenoaaDoorW.PrintWords Go.Proofs.YthjmlmognbenoaaDoorW.PrintLast Go.Proofs.YthjmlmognbenoaaDoorW.PrintMore
set_option linter.unusedVariables false
set_option linter.unusedSimpArgs false
theorem results_cell_int {fn : Func} {p : Tmp} (h : fn.results = #[.cell p 3]) (tmps : Array Value) (w : World) (g : Nat) (v : Value)
    (hp : tmps.getD p undef = .pointer (some ⟨g, 0, none⟩)) (hg : Boxed w g 3 v) : (results fn tmps).run Tryd.prog w = .ok v w := by
  have hp' : tmps[p]?.getD undef = .pointer (some ⟨g, 0, none⟩) := by simpa using hp
  have hc := hg.cell
  have hu := Tryd.underlying3
  simp [results, h, hp', asAddr, loadVar, isAgg, go_sem, hu, hc, Sem.run_bind, Result.andThen]
/-- Three variables, made one behind the other. -/
theorem three_boxes (w : World) (h pos : Int) (A0 : Option Addr) (n c0 : Nat) : ∃ W, ((w.alloc (.cells #[.int .u32 h, .slice A0 n c0] 27)).alloc (.cells #[.int .i64 pos] 3)).alloc (.cells #[.int .i64 0] 3) = W ∧
    W.heap[w.heap.size]? = some (.cells #[.int .u32 h, .slice A0 n c0] 27 (0, 0)) ∧ Boxed W (w.heap.size + 1) 3 (.int .i64 pos) ∧ Boxed W (w.heap.size + 2) 3 (.int .i64 0) ∧ Below w.heap.size w W ∧ W.heap.size = w.heap.size + 3 := by
  refine ⟨_, rfl, blk_alloc (blk_alloc (blk_new w _) _) _, ?_, ?_, below_alloc (below_alloc (below_alloc (Below.refl _ _) _) _) _, by simp⟩
  · have := (Boxed.new (w.alloc (.cells #[.int .u32 h, .slice A0 n c0] 27)) 3 (.int .i64 pos)).alloc (.cells #[.int .i64 0] 3)
    rwa [World.size_alloc] at this
  · have := Boxed.new ((w.alloc (.cells #[.int .u32 h, .slice A0 n c0] 27)).alloc (.cells #[.int .i64 pos] 3)) 3 (.int .i64 0)
    rwa [World.size_alloc, World.size_alloc] at this
set_option maxRecDepth 100000 in
set_option maxHeartbeats 2000000 in
theorem Next_none (h car pos halls : Int) (A0 : Option Addr) (c0 : Nat) (l0 : List Int) (w : World) (hr0 : Kd.C (Kd.int .u32) w A0 l0.length l0) (hc : l0.length ≤ c0) (hhas : calls_Calls_has.f h l0 car = some false) :
    Calls Tryd.prog 16 #[.agg #[.int .u32 h, .slice A0 l0.length c0], .int .i64 car, .int .i64 pos, .int .u32 halls] w fun e w' => e = .returned (.int .i64 (-1)) ∧ Below w.heap.size w w' := by
  have hu27 := Tryd.underlying27
  have hu3 := Tryd.underlying3
  have HR0 := Aside0.mk hr0
  have HC := Aside0.mk hc
  have HHAS := Aside0.mk hhas
  clear hr0 hc hhas
  go_enter Tryd.func16, Tryd.ntmps16
  go_upto_region 1 with (fail)
  obtain ⟨W, hW, hBc, hBp, hBr, hbl, hz⟩ := three_boxes w h pos A0 l0.length c0
  rw [hW]
  clear hW
  have HRW := Aside0.mk (Kd.C_below HR0.out hbl)
  obtain ⟨G, hG⟩ : ∃ G, G = w.heap.size := ⟨_, rfl⟩
  have hG1 : w.heap.size + 1 = G + 1 := by rw [hG]
  have hG2 : w.heap.size + 2 = G + 2 := by rw [hG]
  have hG3 : w.heap.size + 1 + 1 = G + 2 := by rw [hG]
  simp only [hG1, hG2, hG3, ← hG] at hBc hBp hBr hbl ⊢
  have HSZ : Aside0 (G ≤ W.heap.size) := Aside0.mk (by omega)
  have HG := Aside0.mk hG
  have HBC := Aside0.mk hBc
  have HBR := Aside0.mk hBr
  have HBL := Aside0.mk hbl
  have k0 := (blk_cell hBc 0).trans (rfl : _ = some (Value.int .u32 h))
  have k1 := (blk_cell hBc 1).trans (rfl : _ = some (Value.slice A0 l0.length c0))
  clear hz hG hG1 hG2 hG3 hBc hBp hBr hbl
  go_wp2_with (first
    | (go_at_call 23; refine (calls_Calls_has.calls h A0 c0 l0 car false _ HRW.out HC.out HHAS.out).mono ?_; rintro e w4 ⟨rfl, hb4⟩; have HBL4 := Aside0.mk (HBL.out.trans (hb4.mono HSZ.out)); have HR4 : Aside0 (Boxed w4 (G + 2) 3 (.int .i64 0)) := Aside0.mk ((hb4.block _ HBR.out.lt).trans HBR.out); have r4 := HR4.out.cell; have f4 := HR4.out.frozen; clear hb4))
  have hG2 : w.heap.size ≤ G + 2 := by rw [HG.out]; omega
  have f1 : Boxed (w4.setCell ⟨G + 2, 0, none⟩ (.int .i64 (-1))) (G + 2) 3 (.int .i64 (-1)) := HR4.out.set _
  refine bodyPost_ret (results_cell_int rfl _ _ (G + 2) _ rfl f1) rfl ?_
  exact ⟨rfl, below_set (by rw [← HG.out]; exact HBL4.out) hG2⟩
end Go.Proofs.YthjmlmognbenoaaDoor.PAll
