/- JournalPlays: for every input the law returns true, the table as it is laid. No condition. -/
import Derived.Test.YtbcijmpkmmcdeaaDoorRows
import Derived.Test.YtbcijmpkmmcdeaaDoorCJPlays9
import Derived.ProofKit
import Derived.LaidLaws
import Derived.JoinedOf
import Derived.ChangeVars
import Derived.Handed
import Derived.Test.YtbcijmpkmmcdeaaDoorCJPlays20
import Derived.Test.YtbcijmpkmmcdeaaDoorCJPlays17
import Derived.Test.YtbcijmpkmmcdeaaDoorTie
import Derived.Test.YtbcijmpkmmcdeaaDoorCards
import Derived.SevenTiedAt
import Derived.WalkKit
import Derived.OpenShut
import Derived.ShutString
import Derived.ChangeOld
import Derived.Below
import Derived.SizedLaws
section
namespace Go.Proofs.YtbcijmpkmmcdeaaDoor.Laid
open Go.ChangeShapes Go.WideShapes Go.ChangeAt Go.RowKit
open Go.Proofs.YtbcijmpkmmcdeaaDoor.PAll (Half halfL)
theorem half_no : Tryd.prog.globalNamed "paternoster/crc.half" = some 0 := by kernel_rfl
theorem half_type : (Tryd.prog.globals[0]?).map (·.type) = some 139 := by kernel_rfl
theorem cellsA : Tryd.prog.cellsOf 139 = 16 := by kernel_rfl
theorem cellsE : Tryd.prog.cellsOf 132 = 1 := by kernel_rfl
theorem int_of_trod {H : Type} {enc : TypeId × Value → H} {P : Program} {w : World} {base : Nat} {sp : Nat → Bool} {held : Bool} {fuel : Nat} {t : TypeId} {k : IntKind} {c : Value} {y : DataW H × List MemPlace}
    (ht : P.underlying t = some (.int k)) (h : DataW.trod enc P w base sp held fuel t [c] = some y) : ∃ n, c = .int k n ∧ y = (.lit (.int k n), []) := by
  cases fuel with
  | zero => simp [DataW.trod] at h
  | succ fuel =>
    cases c <;> simp [DataW.trod, ht] at h
    rename_i k' n
    obtain ⟨⟨rfl, _⟩, rfl⟩ := h
    exact ⟨n, rfl, rfl⟩
def cells : Array Value := (halfL.map (Value.int .u32)).toArray
theorem cells_of_laid {W : World} (h : laidMet Tryd.prog [("paternoster/crc.half", Rows.laid_paternoster_crc_half)] W) : W.var? Tryd.prog "paternoster/crc.half" = some cells := by
  obtain ⟨ps, ⟨g, t, cs, fuel, p, q, hg, ht, hvar, hd, _, _⟩, _⟩ := h
  obtain rfl := Option.some.inj (half_no.symm.trans hg)
  obtain rfl := Option.some.inj (half_type.symm.trans ht)
  rw [hvar]
  congr 1
  obtain ⟨l⟩ := cs
  cases fuel with
  | zero => simp [DataW.trod] at hd
  | succ fuel =>
    simp only [DataW.trod, Tryd.underlying139, cellsA, cellsE] at hd
    split at hd
    · rename_i hl
      obtain ⟨c0, c1, c2, c3, c4, c5, c6, c7, c8, c9, c10, c11, c12, c13, c14, c15, rfl⟩ : ∃ c0 c1 c2 c3 c4 c5 c6 c7 c8 c9 c10 c11 c12 c13 c14 c15, l = [c0, c1, c2, c3, c4, c5, c6, c7, c8, c9, c10, c11, c12, c13, c14, c15] := by
        match l, hl with
        | [a, b, c, d, e, f, g, h, i, j, k, l, m, n, o, p], _ => exact ⟨a, b, c, d, e, f, g, h, i, j, k, l, m, n, o, p, rfl⟩
      have e : List.range 16 = [0, 1, 2, 3, 4, 5, 6, 7, 8, 9, 10, 11, 12, 13, 14, 15] := rfl
      rw [e] at hd
      simp only [Option.map_eq_some_iff, List.mapM_cons, List.mapM_nil, Option.bind_eq_bind, Option.bind_eq_some_iff, Option.pure_def, Option.some.injEq] at hd
      obtain ⟨xs, ⟨y0, h0, _, ⟨y1, h1, _, ⟨y2, h2, _, ⟨y3, h3, _, ⟨y4, h4, _, ⟨y5, h5, _, ⟨y6, h6, _, ⟨y7, h7, _, ⟨y8, h8, _, ⟨y9, h9, _, ⟨y10, h10, _, ⟨y11, h11, _, ⟨y12, h12, _, ⟨y13, h13, _, ⟨y14, h14, _, ⟨y15, h15, _, rfl, rfl⟩, rfl⟩, rfl⟩, rfl⟩, rfl⟩, rfl⟩, rfl⟩, rfl⟩, rfl⟩, rfl⟩, rfl⟩, rfl⟩, rfl⟩, rfl⟩, rfl⟩, rfl⟩, hx⟩ := hd
      obtain ⟨n0, rfl, rfl⟩ := int_of_trod Tryd.underlying132 h0
      obtain ⟨n1, rfl, rfl⟩ := int_of_trod Tryd.underlying132 h1
      obtain ⟨n2, rfl, rfl⟩ := int_of_trod Tryd.underlying132 h2
      obtain ⟨n3, rfl, rfl⟩ := int_of_trod Tryd.underlying132 h3
      obtain ⟨n4, rfl, rfl⟩ := int_of_trod Tryd.underlying132 h4
      obtain ⟨n5, rfl, rfl⟩ := int_of_trod Tryd.underlying132 h5
      obtain ⟨n6, rfl, rfl⟩ := int_of_trod Tryd.underlying132 h6
      obtain ⟨n7, rfl, rfl⟩ := int_of_trod Tryd.underlying132 h7
      obtain ⟨n8, rfl, rfl⟩ := int_of_trod Tryd.underlying132 h8
      obtain ⟨n9, rfl, rfl⟩ := int_of_trod Tryd.underlying132 h9
      obtain ⟨n10, rfl, rfl⟩ := int_of_trod Tryd.underlying132 h10
      obtain ⟨n11, rfl, rfl⟩ := int_of_trod Tryd.underlying132 h11
      obtain ⟨n12, rfl, rfl⟩ := int_of_trod Tryd.underlying132 h12
      obtain ⟨n13, rfl, rfl⟩ := int_of_trod Tryd.underlying132 h13
      obtain ⟨n14, rfl, rfl⟩ := int_of_trod Tryd.underlying132 h14
      obtain ⟨n15, rfl, rfl⟩ := int_of_trod Tryd.underlying132 h15
      simp [Rows.laid_paternoster_crc_half] at hx
      obtain ⟨⟨rfl, rfl, rfl, rfl, rfl, rfl, rfl, rfl, rfl, rfl, rfl, rfl, rfl, rfl, rfl, rfl⟩, _⟩ := hx
      rfl
    · cases hd
theorem half_of_laid {W : World} (h : laidMet Tryd.prog [("paternoster/crc.half", Rows.laid_paternoster_crc_half)] W) : Half W := by
  intro i hi
  have hc := World.var?_cell half_no (cells_of_laid h) i
  rw [hc]
  rcases (show i = 0 ∨ i = 1 ∨ i = 2 ∨ i = 3 ∨ i = 4 ∨ i = 5 ∨ i = 6 ∨ i = 7 ∨ i = 8 ∨ i = 9 ∨ i = 10 ∨ i = 11 ∨ i = 12 ∨ i = 13 ∨ i = 14 ∨ i = 15 by omega) with rfl | rfl | rfl | rfl | rfl | rfl | rfl | rfl | rfl | rfl | rfl | rfl | rfl | rfl | rfl | rfl <;> rfl
noncomputable def laidWorld (os : Os) : World :=
  { World.holding Tryd.prog os ⟨#[], #[], []⟩ with heap := (World.holding Tryd.prog os ⟨#[], #[], []⟩).heap.modify 0 fun
      | .cells _ t frozen => .cells cells t frozen
      | o => o }
theorem laid_met (os : Os) (args : Array Value) : laidMet Tryd.prog [("paternoster/crc.half", Rows.laid_paternoster_crc_half)] ((laidWorld os).forCall (fun _ _ => 0) ⟨#[], args, []⟩).memory :=
  laidMet_of_run' 8 (by kernel_rfl) (by kernel_rfl)
end Go.Proofs.YtbcijmpkmmcdeaaDoor.Laid
end
section
namespace Go.Proofs.YtbcijmpkmmcdeaaDoor.journalPlays
open Go.ChangeShapes Go.WideShapes Go.ChangeAt Go.RowKit Go.Proofs.YtbcijmpkmmcdeaaDoorW.PrintWords
open Go.ChangeMaps (open_string shut_string)
set_option linter.unusedVariables false
theorem own : ownKnob Tryd.prog.godebug = none := by kernel_rfl
theorem laidOut : laidOutB Tryd.prog = true := by kernel_rfl
set_option maxRecDepth 100000 in
theorem lifted (os : Os) (started : os.Started) (H : Type) (enc : TypeId × Value → H) :
    ReturnsInHanded {} Tryd.checked os 7 .any (fun w args => (Rows.journalPlaysSpec.pre enc Tryd.prog Tryd.f7 [] false w args ∧ laidMet Tryd.prog [("paternoster/crc.half", Rows.laid_paternoster_crc_half)] w) ∧ sizedMet enc Tryd.prog Tryd.f7 (OpenSpec.ofChange Rows.journalPlaysSpec) false w args) (Rows.journalPlaysSpec.post enc Tryd.prog Tryd.f7 false true false false) := by
  refine returnsInHanded_of_change_and (C := Tryd.checked) (X := fun w _ => laidMet Tryd.prog [("paternoster/crc.half", Rows.laid_paternoster_crc_half)] w) (fun _ _ _ hh h => h.of_heap hh) own started (by kernel_rfl) Tryd.func7
    (ChangeSpec.witness_at (enc := enc) (C := Tryd.checked) (os := os) (X := fun w _ => laidMet Tryd.prog [("paternoster/crc.half", Rows.laid_paternoster_crc_half)] w) false (Laid.laidWorld os) #[.slice none 0 0, .slice none 0 0, .slice none 0 0] 8 rfl (by kernel_rfl) (by kernel_rfl) (by kernel_rfl) (by kernel_rfl) (by kernel_rfl) (Laid.laid_met os _)) ?_
  intro W base args ds gs before hval0 hW _ hsz0 hL _
  have hhalf := Laid.half_of_laid hL
  have hsz : (DataW.weightsEach Tryd.prog (Tryd.f7.params.toList ++ Rows.journalPlaysSpec.plain.varTypes Tryd.prog) (ds ++ gs)).all (· ≤ reachBytes) = true := hsz0
  have hval : ∀ (j : Nat) t v, Tryd.f7.params[j]? = some t → args[j]? = some v → Value.okWide Tryd.prog W .any base t v := hval0
  have hW' := hW
  obtain ⟨p, q, hA0, hV, rfl, hfz, hnd⟩ := hW
  have hA : DataW.TrodAll enc Tryd.prog W 0 (fun _ => true) true Tryd.f7.params.toList args.toList ds p := hA0
  rw [Tryd.params7] at hA hval hsz
  obtain ⟨v0, vs0, d0, ds0, p0, q0, hargs, rfl, rfl, h0, r0⟩ := trodAll_cons hA
  obtain ⟨v1, vs1, d1, ds1, p1, q1, rfl, rfl, rfl, h1, r1⟩ := trodAll_cons r0
  obtain ⟨v2, vs2, d2, ds2, p2, q2, rfl, rfl, rfl, h2, r2⟩ := trodAll_cons r1
  obtain ⟨rfl, rfl, rfl⟩ := trodAll_nil r2
  obtain rfl : args = #[v0, v1, v2] := by cases args; simp_all
  obtain ⟨rfl, rfl⟩ := trodVars_none hV
  obtain ⟨A0, len0, c0, rfl⟩ := okWide_slice Tryd.underlying22 (hval 0 22 v0 rfl rfl)
  have k0 := h0
  have lt0 : ∀ x ∈ p0, x.block < W.heap.size := by obtain ⟨m, hm⟩ := k0; exact DataW.trod_lt m _ _ _ hm
  obtain ⟨fu0, hf0⟩ := h0
  obtain ⟨l0, ⟨B0, b0, e0, hc0, hr0⟩, ok0⟩ := (Op.Opens.slice (K := Kd.int .u8) Tryd.underlying22 (by kernel_rfl) (Op.Opens.int .u8 Tryd.underlying5 (by kernel_rfl))).op hf0
  simp [Value.cells] at e0
  obtain ⟨rfl, rfl, rfl⟩ := e0
  obtain ⟨A1, len1, c1, rfl⟩ := okWide_slice Tryd.underlying22 (hval 1 22 v1 rfl rfl)
  have k1 := h1
  have lt1 : ∀ x ∈ p1, x.block < W.heap.size := by obtain ⟨m, hm⟩ := k1; exact DataW.trod_lt m _ _ _ hm
  obtain ⟨fu1, hf1⟩ := h1
  obtain ⟨l1, ⟨B1, b1, e1, hc1, hr1⟩, ok1⟩ := (Op.Opens.slice (K := Kd.int .u8) Tryd.underlying22 (by kernel_rfl) (Op.Opens.int .u8 Tryd.underlying5 (by kernel_rfl))).op hf1
  simp [Value.cells] at e1
  obtain ⟨rfl, rfl, rfl⟩ := e1
  obtain ⟨A2, len2, c2, rfl⟩ := okWide_slice Tryd.underlying63 (hval 2 63 v2 rfl rfl)
  have k2 := h2
  have lt2 : ∀ x ∈ p2, x.block < W.heap.size := by obtain ⟨m, hm⟩ := k2; exact DataW.trod_lt m _ _ _ hm
  obtain ⟨fu2, hf2⟩ := h2
  obtain ⟨l2, ⟨B2, b2, e2, hc2, hr2⟩, ok2⟩ := (Op.Opens.slice (K := SF.k71) Tryd.underlying63 (by kernel_rfl) SF.opens71).op hf2
  simp [Value.cells] at e2
  obtain ⟨rfl, rfl, rfl⟩ := e2
  clear hA0 hval0 hsz0
  obtain ⟨k, hk⟩ := (⟨0, trivial⟩ : ∃ k : Nat, True)
  refine (SF.plays_calls (A0, c0) (A1, c1) (A2, c2) l0 l1 l2 W ⟨hc0, hr0⟩ ⟨hc1, hr1⟩ ⟨hc2, hr2⟩ (SF.bytes_wf ok0.2) (SF.bytes_wf ok1.2) hhalf).mono fun e W' ⟨he, bel⟩ => ?_
  subst he
  exact ⟨_, rfl, _, _, _, [], _, [], hW', trodAll_mk1 (shut_bool Tryd.underlying4 _), (trodAll_cons_mk (Below.trod laidOut (by kernel_rfl) (of_decide_eq_true (by kernel_rfl)) k0 bel lt0) (trodAll_cons_mk (Below.trod laidOut (by kernel_rfl) (of_decide_eq_true (by kernel_rfl)) k1 bel lt1) (trodAll_cons_mk (Below.trod laidOut (by kernel_rfl) (of_decide_eq_true (by kernel_rfl)) k2 bel lt2) trodAll_mk0))), rfl, bel.frame _, fun h => by cases h⟩
theorem over : Rows.journalPlaysRow.holds Tryd.pinned (OpenSpec.ofChange Rows.journalPlaysSpec) :=
  OpenClaim.holds_of_wide 7 Tryd.f7 rfl rfl rfl rfl rfl rfl rfl ⟨rfl, rfl, rfl, rfl, rfl⟩ rfl rfl rfl rfl rfl (by kernel_rfl) Tryd.func7 (by kernel_rfl)
    (of_decide_eq_true (by kernel_rfl)) (by unfold Func.isWrapper; first | (rw [if_pos (by decide +kernel)]; kernel_rfl) | (rw [if_neg (by decide +kernel)]; exact ⟨rfl, rfl⟩))
    (fun os started H enc _ => lifted os started H enc)
theorem proved : Rows.JournalPlaysSaid := over
theorem row_tie : Rows.journalPlaysRow.laidByTextAt .later Tryd.pinned [.data] true := journalPlays_row_tie
theorem card : Rows.JournalPlaysCardSaid :=
  Claim7.holds_tied_plain_at .later [] [.data] true (true, "fded5a95f2cb90ddeb8c0e98f18869e819c31d73c8176f1dff450dd77119bd84") false
    proved (fun _ h => by cases h) (by kernel_rfl) (fun _ h => by cases h) row_tie rfl ⟨rfl, rfl⟩ (by kernel_rfl) rfl
    (fun f fn hf hfn => by
      obtain rfl : f = 7 := Option.some.inj ((show Tryd.prog.funcNamed "paternoster/paternosterlaw16.JournalPlays" = some 7 by kernel_rfl).symm.trans hf) |>.symm
      obtain rfl : fn = Tryd.f7 := (Option.some.inj (Tryd.func7.symm.trans hfn)).symm
      exact ⟨by kernel_rfl, fun j t ht => by
        rw [Tryd.params7] at ht
        have ht' : t ∈ #[22, 22, 63] := Array.mem_of_getElem? ht
        simp only [List.mem_toArray, List.mem_cons, List.not_mem_nil, or_false] at ht'
        rcases ht' with rfl | rfl | rfl
        · exact (show Tryd.prog.wantsStandIn 22 = false by kernel_rfl)
        · exact (show Tryd.prog.wantsStandIn 22 = false by kernel_rfl)
        · exact (show Tryd.prog.wantsStandIn 63 = false by kernel_rfl)⟩)
    (by kernel_rfl)
#print axioms card
end Go.Proofs.YtbcijmpkmmcdeaaDoor.journalPlays
namespace Go.Proofs.YtbcijmpkmmcdeaaDoor
theorem journalPlays_holds : Rows.JournalPlaysCardSaid := journalPlays.card
end Go.Proofs.YtbcijmpkmmcdeaaDoor
end
