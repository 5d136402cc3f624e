/- ScriptLong: for every input the law returns true, the variables as they are laid. No condition. -/
import Derived.Test.YtglgipggefpoiaaGreatDoorCSLong10
import Derived.Test.YtglgipggefpoiaaGreatDoorCSLong12
import Derived.Test.YtglgipggefpoiaaGreatDoorCSLong8
import Derived.Laws.IdiomStrings
import Derived.Laws.MakeOwn
import Derived.Test.YtglgipggefpoiaaGreatDoorCSLong6
import Derived.Test.YtglgipggefpoiaaGreatDoorCSLong7
import Derived.SizedLaws
import Derived.ChangeArms
import Derived.DataElems
import Derived.DataReads
import Derived.ProofKit
import Derived.OpenShut
import Derived.ChangeSame
import Derived.Test.YtglgipggefpoiaaGreatDoorRows
import Derived.HandedShaped
import Derived.Lib.LaidU8
import Derived.Lib.LaidTab
import Derived.Lay
import Derived.MakeChecks
import Derived.Shelf.Vars
import Derived.Test.YtglgipggefpoiaaGreatDoorTie
import Derived.Test.YtglgipggefpoiaaGreatDoorCards
import Derived.SevenTiedAt
import Derived.WalkKit
import Derived.ShutString
import Derived.ChangeOld
import Derived.Below
section
namespace Go.Proofs.YtglgipggefpoiaaGreatDoor.PAll
open Go.RowKit Go.Proofs.YtglgipggefpoiaaGreatDoorW.PrintWords Go.Proofs.YtglgipggefpoiaaGreatDoorW.PrintLast Go.Proofs.YtglgipggefpoiaaGreatDoorW.PrintMore
attribute [local go_sem] max2_int min2_int max_two min_two max_three min_three max_four min_four
set_option linter.unusedVariables false
set_option linter.unusedSimpArgs false
theorem eqA45 (d : Nat) (w : World) (x0 y0 : Int) (x1 y1 : Int) (x2 y2 : Int) :
    (Op.equalIn (d + 2) 45 (.agg #[.int .i64 x0, .int .i64 x1, .int .i64 x2]) (.agg #[.int .i64 y0, .int .i64 y1, .int .i64 y2])).run Tryz.prog w = .ok (x0 == y0 && (x1 == y1 && (x2 == y2))) w := by
  refine eqA_of Tryz.underlying45 (by kernel_rfl) ?_
  refine eqf_cons (by rfl) (by go_simp; rfl) (by go_simp; rfl) (by go_simp) ?_
  refine eqf_cons (by rfl) (by go_simp; rfl) (by go_simp; rfl) (by go_simp) ?_
  exact eqf_last (by rfl) (by go_simp; rfl) (by go_simp; rfl) (by go_simp)
end Go.Proofs.YtglgipggefpoiaaGreatDoor.PAll
end
section
set_option linter.unusedVariables false
set_option linter.unusedSimpArgs false
namespace Go.Proofs.YtglgipggefpoiaaGreatDoor.SF
open Go.RowKit Go.Sx Go.Proofs.YtglgipggefpoiaaGreatDoor.PAll Go.Proofs.YtglgipggefpoiaaGreatDoorW.PrintWords Go.Proofs.YtglgipggefpoiaaGreatDoorW.PrintLast Go.Proofs.YtglgipggefpoiaaGreatDoorW.PrintMore
theorem evs_fuel : ∀ (n K : Nat) (ws : List ByteArray), ws.length ≤ n → n ≤ K → evsF K ws = evsF n ws
  | n, K, [], _, _ => by rw [evs_nil, evs_nil]
  | 0, K, w :: ws, h, _ => by simp at h
  | n + 1, K, w :: ws, h, hK => by
    obtain ⟨K, rfl⟩ : ∃ j, K = j + 1 := ⟨K - 1, by omega⟩
    have hr := rest_lt (ws := w :: ws) (by simp)
    rw [evsF, evsF, evs_fuel n K (evRest (w :: ws)) (by omega) (by omega)]
end Go.Proofs.YtglgipggefpoiaaGreatDoor.SF
end
section
set_option linter.unusedVariables false
set_option linter.unusedSimpArgs false
namespace Go.Proofs.YtglgipggefpoiaaGreatDoor.SF
open Go.RowKit Go.Sx Go.Proofs.YtglgipggefpoiaaGreatDoor.PAll Go.Proofs.YtglgipggefpoiaaGreatDoorW.PrintWords Go.Proofs.YtglgipggefpoiaaGreatDoorW.PrintLast Go.Proofs.YtglgipggefpoiaaGreatDoorW.PrintMore
theorem join_jn : ∀ ws : List (List UInt8), Lib.join ws [32] = jn ws
  | [] => rfl
  | [w] => by simp [Lib.join, jn, List.intercalate]
  | w :: v :: ws => by
    rw [jn, ← join_jn (v :: ws)]
    simp [Lib.join, List.intercalate]
def noSp (w : ByteArray) : Prop := ∀ c ∈ w.data.toList, c ≠ 32
theorem dg_ne {c : UInt8} (h : isDg c) : c ≠ 32 := by
  rintro rfl; exact absurd h.1 (by decide)
theorem ubs_sp (u : Nat) : noSp (ubs u) := fun c hc => by rw [ubs_data] at hc; exact dg_ne (dec_dg u c hc)
theorem ibs_sp (v : Int) : noSp (ibs v) := fun c hc => by
  rw [ibs_data] at hc
  unfold Lib.itoa at hc
  split at hc
  · rcases List.mem_cons.1 hc with rfl | hc
    · decide
    · exact dg_ne (dec_dg _ c hc)
  · exact dg_ne (dec_dg _ c hc)
theorem formAt_sp {k : Int} {x : ByteArray × Bool × Bool} (h : formAt k = some x) : noSp x.1 ∧ x.1.size ≤ 7 ∧ kindOf x.1 = some (k, x.2.1, x.2.2) := by
  unfold formAt at h
  repeat' (split at h; (first | (rename_i e; subst e; cases h; refine ⟨by unfold noSp; decide, by decide, ?_⟩; unfold kindOf; simp only [tol]; decide) | skip))
  cases h
theorem evW_sp (e : S49) : ∀ w ∈ evW e, noSp w := by
  intro w hw
  unfold evW at hw
  split at hw
  · cases hw
  · rename_i wd c n hf
    rcases List.mem_cons.1 hw with rfl | hw
    · exact (formAt_sp hf).1
    · rcases List.mem_append.1 hw with hw | hw
      · split at hw
        · rw [List.mem_singleton.1 hw]; exact ibs_sp _
        · cases hw
      · split at hw
        · rw [List.mem_singleton.1 hw]; exact ibs_sp _
        · cases hw
theorem headW_sp (m g : Bool) (c : Int) (b : Nat) : ∀ w ∈ headW m g c b, noSp w := by
  intro w hw
  simp only [headW, List.mem_cons, List.not_mem_nil, or_false] at hw
  rcases hw with rfl | rfl | rfl | rfl
  · cases m <;> (unfold noSp; decide)
  · cases g <;> (unfold noSp; decide)
  · exact ibs_sp _
  · exact ubs_sp _
theorem putW_sp (m g : Bool) (c : Int) (b : Nat) (l : List S49) : ∀ w ∈ putW m g c b l, noSp w := by
  intro w hw
  rcases List.mem_append.1 hw with hw | hw
  · exact headW_sp m g c b w hw
  · obtain ⟨e, _, he⟩ := List.mem_flatMap.1 hw
    exact evW_sp e w he
theorem putS_data (m g : Bool) (c : Int) (b : Nat) (l : List S49) : (putS m g c b l).data.toList = jn ((putW m g c b l).map (·.data.toList)) := by
  unfold putS
  rw [join_jn]
theorem map_bl (ws : List ByteArray) : (ws.map (·.data.toList)).map bl = ws := by
  rw [List.map_map]
  have : (bl ∘ fun x : ByteArray => x.data.toList) = id := by funext x; exact bl_data x
  rw [this, List.map_id]
theorem put_spl (m g : Bool) (c : Int) (b : Nat) (l : List S49) : wspl (putS m g c b l).data.toList = (putW m g c b l).map (·.data.toList) := by
  rw [putS_data]
  refine spl_jn (by unfold putW headW; simp) (fun w hw => ?_)
  obtain ⟨x, hx, rfl⟩ := List.mem_map.1 hw
  exact putW_sp m g c b l x hx
theorem spl_sp : ∀ l : List UInt8, wspl (l ++ [32]) = wspl l ++ [[]]
  | [] => rfl
  | c :: r => by
    rw [List.cons_append, wspl, wspl, spl_sp r]
    split
    · rfl
    · have := spl_ne r
      cases h : wspl r with
      | nil => exact absurd h this
      | cons x t => rfl
theorem put_sp (m g : Bool) (c : Int) (b : Nat) (l : List S49) (s : ByteArray) (hs : s.data.toList = (putS m g c b l).data.toList ++ [32]) : splW s = putW m g c b l ++ [⟨#[]⟩] := by
  rw [splW_spl, hs, spl_sp, put_spl, List.map_append, map_bl]; rfl
theorem sp_put (m g : Bool) (c : Int) (b : Nat) (l : List S49) (s : ByteArray) (hs : s.data.toList = 32 :: (putS m g c b l).data.toList) : splW s = ⟨#[]⟩ :: putW m g c b l := by
  rw [splW_spl, hs, wspl, if_pos rfl, put_spl, List.map_cons, map_bl]; rfl
def norm (e : S49) : Option S49 := match formAt e.f0 with
  | none => none
  | some (_, c, n) => some ⟨e.f0, if c then e.f1 else 0, if n then e.f2 else 0⟩
theorem numP_ibs {v : Int} (h : i64r v) : numP (ibs v) = some v := by
  rw [numP_idec, ibs_data]
  unfold Lib.itoa
  unfold i64r at h
  split
  · rename_i hn
    simp only [idec, if_true]
    rw [udec_some.2 ⟨show v.natAbs ≤ 9223372036854775808 by omega, rfl⟩]
    simp only
    rw [if_neg (by omega)]
    congr 1; omega
  · rename_i hn
    obtain ⟨x, t, e⟩ := List.exists_cons_of_ne_nil (dec_ne v.toNat)
    have hx : ¬ x = 45 := by
      rintro rfl
      exact absurd (dec_dg v.toNat 45 (by rw [e]; simp)).1 (by decide)
    have hu : udec 9223372036854775807 (Lib.decDigits v.toNat) = some v.toNat := udec_some.2 ⟨by omega, rfl⟩
    rw [e] at hu ⊢
    rw [idec, if_neg hx, hu]
    simp only [Option.map_some]
    congr 1; omega
theorem uintP_ubs {u : Nat} (h : u < 18446744073709551616) : uintP (ubs u) = some u := by
  rw [uintP_udec, ubs_data]
  exact udec_some.2 ⟨by omega, rfl⟩
theorem ev_app (e : S49) (he : i64r e.f1 ∧ i64r e.f2) (ws : List ByteArray) {wd : ByteArray} {c n : Bool} (hf : formAt e.f0 = some (wd, c, n)) :
    evRest (evW e ++ ws) = ws ∧ evBad false (evW e ++ ws) = false ∧ evVal (evW e ++ ws) = ⟨e.f0, if c then e.f1 else 0, if n then e.f2 else 0⟩ := by
  have hk := (formAt_sp hf).2.2
  simp only at hk
  have hw : evW e = wd :: ((if c then [ibs e.f1] else []) ++ (if n then [ibs e.f2] else [])) := by unfold evW; rw [hf]
  have nb : ∀ (x : Bool) (ws : List ByteArray), numBad x ws = (x || ws.isEmpty || (numP (hdB ws)).isNone) := fun _ _ => rfl
  have h1 := numP_ibs he.1
  have h2 := numP_ibs he.2
  rw [hw]
  cases c <;> cases n <;> simp only [Bool.false_eq_true, if_false, if_true, List.nil_append, List.append_nil, List.cons_append] <;> refine ⟨?_, ?_, ?_⟩ <;> (first | unfold evRest | unfold evBad | unfold evVal) <;> simp only [hdB, hk, nb, h1, h2, List.tail_cons, List.isEmpty_cons, Option.isNone_some, Option.getD_some, Bool.or_self, Bool.false_eq_true, if_false, if_true]
theorem evs_app : ∀ (l : List S49) (he : ∀ e ∈ l, i64r e.f1 ∧ i64r e.f2) (ws : List ByteArray) (K : Nat), (l.flatMap evW ++ ws).length ≤ K → evsF K (l.flatMap evW ++ ws) = (evsF ws.length ws).map (l.filterMap norm ++ ·)
  | [], _, ws, K, hK => by
    rw [List.flatMap_nil, List.nil_append] at hK ⊢
    rw [evs_fuel ws.length K ws (Nat.le_refl _) hK]
    simp
  | e :: l, he, ws, K, hK => by
    rw [List.flatMap_cons, List.append_assoc] at hK ⊢
    have ih := evs_app l (fun x hx => he x (List.mem_cons_of_mem _ hx)) ws
    cases hf : formAt e.f0 with
    | none =>
      have hw : evW e = [] := by unfold evW; rw [hf]
      have hn : norm e = none := by unfold norm; rw [hf]
      rw [hw, List.nil_append] at hK ⊢
      rw [ih K hK, List.filterMap_cons, hn]
    | some x =>
      obtain ⟨wd, c, n⟩ := x
      obtain ⟨r1, r2, r3⟩ := ev_app e (he e (by simp)) (l.flatMap evW ++ ws) hf
      have hn : norm e = some ⟨e.f0, if c then e.f1 else 0, if n then e.f2 else 0⟩ := by unfold norm; rw [hf]
      have hw : ∃ r, evW e = wd :: r := by unfold evW; rw [hf]; exact ⟨_, rfl⟩
      obtain ⟨r, hr⟩ := hw
      have hne : evW e ++ (l.flatMap evW ++ ws) = wd :: (r ++ (l.flatMap evW ++ ws)) := by rw [hr]; rfl
      have hlen := rest_lt (ws := evW e ++ (l.flatMap evW ++ ws)) (by rw [hne]; simp)
      rw [r1] at hlen
      obtain ⟨K, rfl⟩ : ∃ j, K = j + 1 := ⟨K - 1, by omega⟩
      have hst : evsF (K + 1) (evW e ++ (l.flatMap evW ++ ws)) = if evBad false (evW e ++ (l.flatMap evW ++ ws)) then none else (evsF K (evRest (evW e ++ (l.flatMap evW ++ ws)))).map (evVal (evW e ++ (l.flatMap evW ++ ws)) :: ·) := by rw [hne, evsF]
      rw [hst, r1, r2, r3, ih K (by omega), List.filterMap_cons, hn]
      simp only [Bool.false_eq_true, if_false]
      cases evsF ws.length ws with
      | none => rfl
      | some L => rfl
theorem tol_ite (b : Bool) (x y : ByteArray) (hxy : ¬ y.data.toList = x.data.toList) : ((if b then x else y).toList == x.toList) = b := by
  rw [tol_eq]
  cases b
  · simp [hxy]
  · simp
theorem head_put (m g : Bool) {c : Int} {b : Nat} (hc : i64r c) (hb : b < 18446744073709551616) (r : List ByteArray) : headBad (headW m g c b ++ r) = false := by
  unfold headBad numBad isBad headW
  simp only [List.cons_append, List.nil_append, hdB, List.tail_cons, List.isEmpty_cons, numP_ibs hc, uintP_ubs hb, Option.isNone_some, Bool.or_false, Bool.false_or, tol_eq]
  cases m <;> cases g <;> decide
theorem tick_put (m g : Bool) {c : Int} {b : Nat} (hc : i64r c) (hb : b < 18446744073709551616) (r : List ByteArray) : tickW (headW m g c b ++ r) = (evsF (headW m g c b ++ r).length r).map fun L => (m, g, c, b, L) := by
  unfold tickW
  rw [if_neg (by simp [headW]), head_put m g hc hb, if_neg (by simp)]
  have h1 : ((if m then (⟨#[109, 97, 105, 110, 115]⟩ : ByteArray) else noneB).toList == mainsB.toList) = m := tol_ite m mainsB noneB (by decide)
  have h2 : ((if g then (⟨#[103, 101, 110]⟩ : ByteArray) else noneB).toList == genB.toList) = g := tol_ite g genB noneB (by decide)
  have e1 : hdB (headW m g c b ++ r) = if m then (⟨#[109, 97, 105, 110, 115]⟩ : ByteArray) else noneB := rfl
  have e2 : hdB (headW m g c b ++ r).tail = if g then (⟨#[103, 101, 110]⟩ : ByteArray) else noneB := rfl
  have e3 : hdB (headW m g c b ++ r).tail.tail = ibs c := rfl
  have e4 : hdB (headW m g c b ++ r).tail.tail.tail = ubs b := rfl
  have e5 : (headW m g c b ++ r).tail.tail.tail.tail = r := rfl
  rw [e1, e2, e3, e4, e5, h1, h2, numP_ibs hc, uintP_ubs hb]
  rfl
theorem jn_len (ws : List ByteArray) (M : Nat) (h : ∀ w ∈ ws, w.size ≤ M) : (jn (ws.map (·.data.toList))).length ≤ ws.length * (M + 1) := by
  induction ws with
  | nil => simp [jn]
  | cons w ws ih =>
    have hw : w.data.toList.length ≤ M := h w (by simp)
    have := ih (fun x hx => h x (List.mem_cons_of_mem _ hx))
    cases ws with
    | nil => simp only [List.map_cons, List.map_nil, jn, List.length_singleton]; omega
    | cons v ws =>
      simp only [List.map_cons, jn, List.length_append, List.length_cons] at this ⊢
      rw [Nat.add_mul] at this ⊢
      rw [Nat.add_mul]
      omega
theorem evW_few (e : S49) (he : i64r e.f1 ∧ i64r e.f2) : (evW e).length ≤ 3 ∧ ∀ w ∈ evW e, w.size ≤ 21 := by
  unfold evW
  split
  · exact ⟨by simp, fun w hw => by cases hw⟩
  · rename_i wd c n hf
    refine ⟨by cases c <;> cases n <;> simp, fun w hw => ?_⟩
    rcases List.mem_cons.1 hw with rfl | hw
    · have := (formAt_sp hf).2.1; simp only at this; omega
    · rcases List.mem_append.1 hw with hw | hw
      · split at hw
        · rw [List.mem_singleton.1 hw]; exact ibs_size he.1
        · cases hw
      · split at hw
        · rw [List.mem_singleton.1 hw]; exact ibs_size he.2
        · cases hw
theorem put_len (m g : Bool) {c : Int} {b : Nat} {l : List S49} (hc : i64r c) (hb : b < 18446744073709551616) (he : ∀ e ∈ l, i64r e.f1 ∧ i64r e.f2) : (putS m g c b l).size ≤ 66 * l.length + 88 := by
  have h1 : (l.flatMap evW).length ≤ 3 * l.length := by
    clear hc hb
    induction l with
    | nil => simp
    | cons e l ih =>
      have := (evW_few e (he e (by simp))).1
      have := ih (fun x hx => he x (List.mem_cons_of_mem _ hx))
      rw [List.flatMap_cons, List.length_append, List.length_cons]
      omega
  have h2 : ∀ w ∈ putW m g c b l, w.size ≤ 21 := by
    intro w hw
    rcases List.mem_append.1 hw with hw | hw
    · simp only [headW, List.mem_cons, List.not_mem_nil, or_false] at hw
      rcases hw with rfl | rfl | rfl | rfl
      · cases m <;> decide
      · cases g <;> decide
      · exact ibs_size hc
      · have := ubs_size hb; omega
    · obtain ⟨e, h1, h2⟩ := List.mem_flatMap.1 hw
      exact (evW_few e (he e h1)).2 w h2
  have h3 := jn_len (putW m g c b l) 21 h2
  have h4 : (putW m g c b l).length = 4 + (l.flatMap evW).length := by unfold putW headW; simp; omega
  have h5 : (putS m g c b l).size = (jn ((putW m g c b l).map (·.data.toList))).length := by rw [← putS_data]; simp
  omega
theorem tick_sp (m g : Bool) {c : Int} {b : Nat} {l : List S49} (hc : i64r c) (hb : b < 18446744073709551616) (he : ∀ e ∈ l, i64r e.f1 ∧ i64r e.f2) (s : ByteArray) (hs : s.data.toList = (putS m g c b l).data.toList ++ [32]) (hz : s.size ≤ 4096) : (tickP s).2 = 11 := by
  unfold tickP
  rw [if_neg (by omega), put_sp m g c b l s hs]
  unfold putW
  rw [List.append_assoc, tick_put m g hc hb]
  have h2 := evs_app l he [(⟨#[]⟩ : ByteArray)] (headW m g c b ++ (l.flatMap evW ++ [(⟨#[]⟩ : ByteArray)])).length (by simp)
  rw [h2]
  have h3 : evsF [(⟨#[]⟩ : ByteArray)].length [(⟨#[]⟩ : ByteArray)] = none := by
    rw [show [(⟨#[]⟩ : ByteArray)].length = 0 + 1 from rfl, evsF, if_pos (by unfold evBad kindOf hdB; simp only [tol]; decide)]
  rw [h3]
  rfl
theorem sp_tick (m g : Bool) {c : Int} {b : Nat} {l : List S49} (s : ByteArray) (hs : s.data.toList = 32 :: (putS m g c b l).data.toList) (hz : s.size ≤ 4096) : (tickP s).2 = 11 := by
  unfold tickP
  rw [if_neg (by omega), sp_put m g c b l s hs]
  have : headBad (⟨#[]⟩ :: putW m g c b l) = true := by
    unfold headBad numBad
    have h : isBad false (⟨#[]⟩ :: putW m g c b l) mainsB = true := by unfold isBad hdB; simp only [tol_eq, List.isEmpty_cons]; decide
    rw [h]
    unfold isBad
    simp
  unfold tickW
  rw [this]
  simp
theorem tick_long (s : ByteArray) (hz : 4096 < s.size) : (tickP s).2 = 13 := by unfold tickP; rw [if_pos hz]
end Go.Proofs.YtglgipggefpoiaaGreatDoor.SF
end
section
namespace Go.Proofs.YtglgipggefpoiaaGreatDoor.SF
open Go.RowKit Go.Sx Go.Proofs.YtglgipggefpoiaaGreatDoor.PAll Go.Proofs.YtglgipggefpoiaaGreatDoorW.PrintWords Go.Proofs.YtglgipggefpoiaaGreatDoorW.PrintLast Go.Proofs.YtglgipggefpoiaaGreatDoorW.PrintMore
set_option linter.unusedVariables false
set_option linter.unusedSimpArgs false
set_option maxRecDepth 100000
def RowQ (w : World) (q : Gh) (l : List S45) : Prop := l.length ≤ q.2 ∧ Kd.C k45 w q.1 l.length l
theorem RowQ.below {w w' : World} {q : Gh} {l : List S45} (h : RowQ w q l) (hb : Below w.heap.size w w') : RowQ w' q l := ⟨h.1, Kd.C_below h.2 hb⟩
theorem show_nil (w : World) : Calls Tryz.prog 15 #[.pointer none] w fun e w' => e = .returned (.string ⟨#[]⟩) ∧ Below w.heap.size w w' := by
  refine enter (w0 := w) (hp := [old w]) (env := [(0, .pointer none)]) Tryz.func15 rfl 56 rfl (by simp) rfl (HeapOK.start _) ?_
  refine wc_seq ?_
  refine wc_region ?_
  refine wl_q (q_assign rfl rfl) rfl rfl (by decide) ?_
  refine wl_nil ?_
  refine fq_then ?_
  refine wc_seq ?_
  refine wc_seq ?_
  refine wc_region ?_
  refine wl_q (q_move rfl rfl) rfl rfl (by decide) ?_
  refine wl_q (q_eqlP rfl rfl rfl Tryz.underlying79) rfl rfl (by decide) ?_
  refine wl_nil ?_
  refine fq_then ?_
  refine wc_true rfl ?_
  refine wc_seq ?_
  refine wc_region ?_
  refine wl_q (q_assign rfl rfl) rfl rfl (by decide) ?_
  refine wl_nil ?_
  refine fq_then ?_
  refine wc_ret ?_
  refine fq_then_ret ?_
  refine fq_ret1 rfl rfl (fun w1 H => ?_)
  exact ⟨rfl, H.toBelow (by simp)⟩
end Go.Proofs.YtglgipggefpoiaaGreatDoor.SF
end
section
namespace Go.Sx
open Go.RowKit Go.Proofs.YtglgipggefpoiaaGreatDoorW.PrintWords
set_option linter.unusedVariables false
set_option linter.unusedSimpArgs false
section
variable {P : Program} {ops : Array Oper} {Q : Exit → Act → World → Prop} {w0 : World} {N : Fr} {l : List Oper} {env : Env} {hp : List Item} {o : Oper}
theorem C_of_cells {w : World} {b n : Nat} {cs : Array Value} {e : TypeId} {m : Nat × Nat} {bs : List Int} {pad : List Value} (hb : w.heap[b]? = some (.cells cs e m)) (hc : cs = (bs.map (Value.int .u8) ++ pad).toArray) (hn : n = bs.length) (hl : bs.length ≤ 9223372036854775807) : (Kd.int .u8).C w (some ⟨b, 0, none⟩) n bs := by
  subst hn hc
  refine ⟨rfl, hl, fun _ => ⟨_, rfl, fun j x hx => ⟨[.int .u8 x], rfl, rfl, fun i u hu => ?_⟩⟩⟩
  cases i with
  | zero =>
    cases hu
    rw [addr_add, cell_of_row w b _ _ e m hb]
    have hj := (List.getElem?_eq_some_iff.1 hx).1
    show (bs.map (Value.int .u8) ++ pad).toArray[0 + (j * 1 + 0)]? = _
    rw [Nat.zero_add, Nat.mul_one, Nat.add_zero, List.getElem?_toArray, List.getElem?_append_left (by simpa using hj), List.getElem?_map, hx]
    rfl
  | succ i => simp at hu
theorem wl_makeBytes {t e : TypeId} {x y : Operand} {d : Nat} {n : Int} (ho : o.op = .makeSlice t x y) (hg : o.guard = none) (hd : o.dst = some d) (hN : d < N) (hx : evE x env = some (.int .i64 n)) (hy : evE y env = some (.int .i64 n)) (ht : P.underlying t = some (.slice e))
    (hz : ((P.info? e).bind (·.zero)).map (·.cells) = some #[.int .u8 0]) (hsz : (P.info? e).map (fun i => (i.size, i.bytes)) = some (1, 1)) (h0 : 0 ≤ n) (h1 : n ≤ 100000000)
    (k : ∀ b, WL P ops Q w0 N l ((d, .slice (some ⟨b, 0, none⟩) n.toNat n.toNat) :: env) (.blk b ((List.replicate n.toNat (0 : Int)).map (Value.int .u8) ++ []) e :: hp)) : WL P ops Q w0 N (o :: l) env hp := by
  intro a w h
  refine wpList_plain hg fun K hK => ?_
  cases hi : P.info? e with
  | none => rw [hi] at hz; cases hz
  | some i =>
    cases hz2 : i.zero with
    | none => rw [hi] at hz; simp [hz2] at hz
    | some z =>
      rw [hi] at hz hsz
      simp only [hz2, Option.bind_some, Option.map_some, Option.some.injEq, Prod.mk.injEq] at hz hsz
      have hr := run_make (P := P) w t e i z ht hi hz2 .i64 .i64 n n h0 (Int.le_refl _) (by rw [hsz.2]; omega) (by omega)
      unfold Oper.wp execOp
      simp only [ho, ev_of h.env hx, ev_of h.env hy, Sem.run_bind, hr, Result.andThen_ok, Sem.run_pure]
      refine hK _ _ ?_
      rw [hd]
      have e1 : madeCells z.cells (n.toNat * i.size) = ((List.replicate n.toNat (0 : Int)).map (Value.int .u8) ++ []).toArray := by
        rw [hz, hsz.1]
        apply Array.ext
        · simp [madeCells]
        · intro j h1 h2
          simp [madeCells, Nat.mod_one]
      rw [e1]
      exact k _ _ _ (h.put d _ hN (h.heap.allocRow _ e))
theorem q_blkStr {s t e e2 : TypeId} {x : Operand} {b n c i : Nat} {bs : List Int} {pad : List Value} (ho : o.op = .convert s t x) (hx : evE x env = some (.slice (some ⟨b, 0, none⟩) n c)) (hs : P.underlying s = some (.slice e)) (he : P.underlying e = some (.int .u8)) (ht : P.underlying t = some .string) (hi : hp[i]? = some (.blk b (bs.map (Value.int .u8) ++ pad) e2)) (hn : n = bs.length) (hl : bs.length ≤ 9223372036854775807) : OpQ P o env w0 hp (.string (strOfNums bs)) :=
  q_bytesStr ho hx hs he ht (fun w hw => C_of_cells (hw.get hi : w.heap[b]? = some (.cells (bs.map (Value.int .u8) ++ pad).toArray e2 (0, 0))) rfl hn hl)
end
end Go.Sx
end
section
namespace Go.Proofs.YtglgipggefpoiaaGreatDoor.SF
open Go.RowKit Go.Sx Go.Proofs.YtglgipggefpoiaaGreatDoor.PAll Go.Proofs.YtglgipggefpoiaaGreatDoorW.PrintWords Go.Proofs.YtglgipggefpoiaaGreatDoorW.PrintLast Go.Proofs.YtglgipggefpoiaaGreatDoorW.PrintMore
set_option linter.unusedVariables false
set_option linter.unusedSimpArgs false
set_option maxRecDepth 100000
theorem Zl58 : (Tryz.prog.info? 58).bind (·.zero) = some (.agg #[.string ⟨#[]⟩, .bool false, .bool false]) := by kernel_rfl
theorem wrap_id {x : Int} (h : -9223372036854775808 ≤ x ∧ x ≤ 9223372036854775807) : IntKind.i64.wrap x = x := by
  simp only [IntKind.wrap, IntKind.signed, IntKind.bits]; simp; omega
def evAt (l : List S49) (i : Nat) : Option (S49 × Option (ByteArray × Bool × Bool)) := l[i]?.map fun e => (e, formAt e.f0)
theorem evAt_none {l : List S49} {i : Nat} (h : evAt l i = none) (hi : i ≤ l.length) : i = l.length := by
  unfold evAt at h
  rw [Option.map_eq_none_iff, List.getElem?_eq_none_iff] at h
  omega
theorem evAt_some {l : List S49} {i : Nat} {e : S49} {f : Option (ByteArray × Bool × Bool)} (h : evAt l i = some (e, f)) : l[i]? = some e ∧ formAt e.f0 = f := by
  unfold evAt at h
  rw [Option.map_eq_some_iff] at h
  obtain ⟨e', h1, h2⟩ := h
  cases h2
  exact ⟨h1, rfl⟩
theorem row_next {l : List S49} {i : Nat} {e : S49} {ws : List ByteArray} (hle : l[i]? = some e) (hw : evW e = ws) : (l.take (i + 1)).flatMap evW = (l.take i).flatMap evW ++ ws := by
  rw [List.take_add_one, hle, List.flatMap_append]
  simp [hw]
theorem row_len {l : List S49} {i : Nat} {e : S49} {ws : List ByteArray} (hle : l[i]? = some e) (hw : evW e = ws) : 4 + ((l.take (i + 1)).flatMap evW).length = 4 + ((l.take i).flatMap evW).length + ws.length := by
  rw [row_next hle hw, List.length_append, Nat.add_assoc]
theorem row_small {l : List S49} {i : Nat} (h : l.length ≤ 100) : ((l.take i).flatMap evW).length ≤ 300 := by
  have := evs_len (l.take i)
  rw [List.length_take] at this
  omega
theorem strs_of {w : World} {A : Option Addr} {n c : Nat} {xs : List ByteArray} (h : w.ownsRow 0 9 1 (.slice A n c) n (xs.map Value.string)) : StrsAt w A xs ∧ n ≤ c := by
  rcases h.2 with ⟨e, e0⟩ | ⟨g, cap, cur, e, hg, hh, hn, hm, hs, ht⟩
  · refine ⟨fun hne => ?_, by omega⟩
    have := h.1
    rw [e0, List.length_map] at this
    exact absurd (List.eq_nil_of_length_eq_zero (by omega)) hne
  · cases e
    refine ⟨fun hne => ⟨g, 0, rfl, fun j x hx => ?_⟩, hn⟩
    have h1 : (xs.map Value.string)[j]? = some (.string x) := by rw [List.getElem?_map, hx]; rfl
    rw [← ht, List.getElem?_take] at h1
    split at h1
    · rw [cell_of_row w g (0 + j) cur 9 (0, 0) hh, Nat.zero_add]; simpa using h1
    · cases h1
theorem row_val {p : Gh} {m g : Bool} {c : Int} {b : Nat} {l : List S49} : Value.slice p.1 (4 + ((l.take l.length).flatMap evW).length) p.2 = .slice p.1 (putW m g c b l).length p.2 := by
  rw [List.take_length, putW, List.length_append]; rfl
theorem putW_le {m g : Bool} {c : Int} {b : Nat} {l : List S49} (h : l.length ≤ 100) : (putW m g c b l).length ≤ 1000000 := by
  have := evs_len l
  rw [putW, List.length_append]
  show 4 + _ ≤ _
  omega
theorem putW_join {m g : Bool} {c : Int} {b : Nat} {l : List S49} (hc : i64r c) (hb : b < 18446744073709551616) (he : ∀ e ∈ l, i64r e.f1 ∧ i64r e.f2) (h : l.length ≤ 100) : (Lib.join ((putW m g c b l).map (·.data.toList)) (⟨#[32]⟩ : ByteArray).data.toList).length ≤ 140737488355328 := by
  have h1 := join_len_le (⟨#[32]⟩ : ByteArray).data.toList 21 (by decide) _ (putW_small m g hc hb he)
  have h2 := putW_le (m := m) (g := g) (c := c) (b := b) h
  rw [List.length_map] at h1
  omega
theorem strs_put {w : World} {p : Gh} {m g : Bool} {c : Int} {b : Nat} {l : List S49} (h : w.ownsRow 0 9 1 (.slice p.1 (4 + ((l.take l.length).flatMap evW).length) p.2) (4 + ((l.take l.length).flatMap evW).length) ((headW m g c b ++ (l.take l.length).flatMap evW).map Value.string)) : StrsAt w p.1 (putW m g c b l) ∧ (putW m g c b l).length ≤ p.2 := by
  rw [List.take_length] at h
  have h1 := strs_of h
  refine ⟨h1.1, ?_⟩
  rw [putW, List.length_append]
  exact h1.2
theorem put_calls (m g : Bool) (c : Int) (b : Nat) (q : Gh) (l : List S49) (w : World) (hL : Lw w) (hE : RowE w q l) (hc : i64r c) (hb : b < 18446744073709551616) (hl : l.length ≤ 100) (hev0 : ∀ e ∈ l, i64r e.f1 ∧ i64r e.f2) :
    Calls Tryz.prog 8 #[.agg #[.bool m, .bool g, .int .i64 c, .int .u64 b, .slice q.1 l.length q.2]] w fun e w' => e = .returned (.string (putS m g c b l)) ∧ Below w.heap.size w w' := by
  refine enter (w0 := w) (hp := [old w]) (env := [(0, .agg #[.bool m, .bool g, .int .i64 c, .int .u64 b, .slice q.1 l.length q.2])]) Tryz.func8 rfl 63 rfl (by simp) rfl (HeapOK.start _) ?_
  refine wc_seq ?_
  refine wc_region ?_
  refine wl_box rfl rfl rfl (by decide) rfl rfl (fun b1 => ?_)
  refine wl_q (q_assign rfl rfl) rfl rfl (by decide) ?_
  refine wl_nil ?_
  refine fq_then ?_
  refine wc_seq ?_
  refine wc_any Fol (any_draw1 (ι := Nat) 13 12 21 _ _ (by kernel_rfl) (ChainM.yield (q_fa (o1 := 0) rfl rfl Fo25_0 rfl) rfl rfl rfl (ChainM.yield (q_load rfl rfl Mn4 (reads1 (i := 0) rfl rfl)) rfl rfl rfl (ChainM.yield (q_call rfl En16 rfl (fun w1 hw1 => word_of _ _ w1)) rfl rfl rfl (ChainM.yield (q_fa (o1 := 1) rfl rfl Fo25_1 rfl) rfl rfl rfl (ChainM.yield (q_load rfl rfl Mn4 (reads1 (i := 0) rfl rfl)) rfl rfl rfl (ChainM.yield (q_call rfl En16 rfl (fun w1 hw1 => word_of _ _ w1)) rfl rfl rfl (ChainM.yield (q_fa (o1 := 2) rfl rfl Fo25_2 rfl) rfl rfl rfl (ChainM.yield (q_load rfl rfl Mn3 (reads1 (i := 0) rfl rfl)) rfl rfl rfl (ChainM.yield (q_call rfl En17 rfl (fun w1 hw1 => itoa_calls _ hc w1 (hL.below (hw1.toBelow (by simp))))) rfl rfl rfl (ChainM.yield (q_fa (o1 := 3) rfl rfl Fo25_3 rfl) rfl rfl rfl (ChainM.yield (q_load rfl rfl Mn22 (reads1 (i := 0) rfl rfl)) rfl rfl rfl (ChainM.yield (q_call rfl En18 rfl (fun w1 hw1 => fu_calls b hb w1 (hL.below (hw1.toBelow (by simp))))) rfl rfl rfl (ChainM.gap rfl (ChainM.nil _ _)))))))))))))) rfl rfl (om_buildSlice rfl rfl Tryz.underlying54 (built_parts Sz9 (by decide) Zs9 (by simp [Value.cells]) rfl (by decide) (by decide) rfl)) (fun b2 => ?_))
  refine wl_q (q_assign rfl rfl) rfl rfl (by decide) ?_
  refine wl_nil ?_
  refine fq_then ?_
  refine wc_seq ?_
  refine wc_region ?_
  refine wl_call (ι := Nat) (fun i => .map (some i)) (fun i => .obj i (mobj .i64 formsL) :: _) (fun _ => True) rfl rfl rfl (by decide) En19 rfl (fun w1 hw1 => (forms_calls w1).mono (fun e w' ⟨i, h1, h2⟩ => ⟨i, trivial, h1, hw1.lift1 h2⟩)) (fun bm _ => ?_)
  skip
  refine wl_q (q_assign rfl rfl) rfl rfl (by decide) ?_
  refine wl_nil ?_
  refine fq_then ?_
  refine wc_seq ?_
  refine wc_seq ?_
  refine wc_region ?_
  refine wl_q (q_fa (o1 := 4) rfl rfl Fo25_4 rfl) rfl rfl (by decide) ?_
  refine wl_q (q_load rfl rfl Mn23 (reads1 (i := 2) rfl rfl)) rfl rfl (by decide) ?_
  refine wl_q (q_len rfl rfl Tryz.underlying23) rfl rfl (by decide) ?_
  refine wl_q (q_move rfl rfl) rfl rfl (by decide) ?_
  refine wl_nil ?_
  refine fq_then ?_
  refine wc_block ?_
  refine wc_blkOwn 1 4 1 rfl rfl (by decide) ?_
  refine wc_loop (ι := (Nat × Gh)) (fun ⟨i, p⟩ => [(3, .slice p.1 (4 + ((l.take i).flatMap evW).length) p.2), (4, .map (some bm)), (24, .slice q.1 l.length q.2), (25, .int .i64 l.length), (26, .int .i64 (i : Nat))]) (fun ⟨i, p⟩ => [.obj bm (mobj .i64 formsL), .own 0 9 1 (.slice p.1 (4 + ((l.take i).flatMap evW).length) p.2) (4 + ((l.take i).flatMap evW).length) ((headW m g c b ++ (l.take i).flatMap evW).map Value.string), old w]) (fun ⟨i, p⟩ => i ≤ l.length) (fun ⟨i, p⟩ => l.length - i) (0, (some ⟨b2, 0, none⟩, 4)) (Nat.zero_le _) ⟨List.forall_mem_cons.2 ⟨rfl, List.forall_mem_cons.2 ⟨rfl, List.forall_mem_cons.2 ⟨rfl, List.forall_mem_cons.2 ⟨rfl, List.forall_mem_cons.2 ⟨rfl, fun _ h => (by cases h)⟩⟩⟩⟩⟩, List.Sublist.cons_cons _ (List.Sublist.cons_cons _ (List.Sublist.cons _ (List.Sublist.cons_cons _ (List.Sublist.refl []))))⟩ ?_
  rintro ⟨i, p⟩ hi
  dsimp only at hi ⊢
  rcases hev : evAt l i with _ | ⟨e, _ | ⟨wd, c1, n1⟩⟩
  · skip
    have hil := evAt_none hev hi
    subst hil
    refine wc_seq ?_
    refine wc_region ?_
    refine wl_q (OpQ.to (q_bin rfl rfl rfl rfl) (congrArg Value.bool (show decide _ = false by rw [decide_eq_false_iff_not]; omega))) rfl rfl (by decide) ?_
    refine wl_nil ?_
    refine fq_then ?_
    refine wc_seq ?_
    refine wc_false rfl ?_
    refine wc_exit ?_
    refine fq_then_exit ?_
    refine fq_then_exit ?_
    refine fq_block_hit ?_
    refine fq_then ?_
    refine wc_seq ?_
    refine wc_region ?_
    refine wl_q (OpQ.to (q_move rfl rfl) (row_val (m := m) (g := g) (c := c) (b := b))) rfl rfl (by decide) ?_
    refine wl_q (q_call rfl En20 rfl (fun w1 hw1 => join_calls p.1 p.2 (putW m g c b l) ⟨#[32]⟩ w1 (strs_put (hw1.get (i := 1) rfl)).1 (putW_le hl) (strs_put (hw1.get (i := 1) rfl)).2 (by simp [putW, headW]) (putW_join hc hb hev0 hl))) rfl rfl (by decide) ?_
    refine wl_q (q_assign rfl rfl) rfl rfl (by decide) ?_
    refine wl_nil ?_
    refine fq_then ?_
    refine wc_ret ?_
    refine fq_ret1 rfl rfl (fun w1 H => ?_)
    exact ⟨rfl, H.toBelow (by simp)⟩
  · skip
    obtain ⟨hle, hf⟩ := evAt_some hev
    have hil := (List.getElem?_eq_some_iff.1 hle).1
    obtain ⟨ad, hA, hcev⟩ := hE.at hle
    have hsm := row_small (i := i) hl
    refine wc_seq ?_
    refine wc_region ?_
    refine wl_q (OpQ.to (q_bin rfl rfl rfl rfl) (congrArg Value.bool (show decide _ = true by rw [decide_eq_true_eq]; omega))) rfl rfl (by decide) ?_
    refine wl_nil ?_
    refine fq_then ?_
    refine wc_seq ?_
    refine wc_true rfl ?_
    refine wc_skip ?_
    refine fq_then ?_
    refine wc_seq ?_
    refine wc_block ?_
    refine wc_seq ?_
    refine wc_region ?_
    refine wl_q (q_indexO rfl rfl hA rfl Tryz.underlying23 Sz49 (by omega) (by omega)) rfl rfl (by decide) ?_
    refine wl_q (q_loadA rfl rfl Mn49 Sz49 rfl (reads_old (by simp) hcev)) rfl rfl (by decide) ?_
    refine wl_alloc rfl rfl rfl (by decide) Zr49 (fun b3 => ?_)
    refine wl_store (i := 0) rfl rfl rfl rfl rfl rfl Sz49 rfl rfl (by simp) (by simp [Value.oneCell']) (by first | (simp only [List.take_succ_cons, List.take_zero, List.take_nil, List.drop_succ_cons, List.drop_zero, List.drop_nil, List.nil_append, List.cons_append, List.append_nil, List.length_cons, List.length_nil, Nat.reduceAdd, Nat.zero_add]; rfl) | rfl) (by first | (simp only [List.set_cons_zero, List.set_cons_succ]; rfl) | rfl) ?_
    refine wl_nil ?_
    refine fq_then ?_
    refine wc_seq ?_
    refine wc_region ?_
    refine wl_q (q_move rfl rfl) rfl rfl (by decide) ?_
    refine wl_q (q_fa (o1 := 0) rfl rfl Fo49_0 rfl) rfl rfl (by decide) ?_
    refine wl_q (q_load rfl rfl Mn3 (reads1 (i := 0) rfl rfl)) rfl rfl (by decide) ?_
    refine wl_q (q_lookupOk (i := 1) (v := .agg #[.string ⟨#[]⟩, .bool false, .bool false]) (c := false) rfl rfl rfl Tryz.underlying55 Tryz.underlying3 Zl58 rfl (by rw [find_form, hf]; rfl) (by rw [find_form, hf]; rfl)) rfl rfl (by decide) ?_
    refine wl_q (q_move rfl rfl) rfl rfl (by decide) ?_
    refine wl_q (q_extract rfl rfl rfl) rfl rfl (by decide) ?_
    refine wl_q (q_extract rfl rfl rfl) rfl rfl (by decide) ?_
    refine wl_alloc rfl rfl rfl (by decide) Zr58 (fun b4 => ?_)
    refine wl_store (i := 0) rfl rfl rfl rfl rfl rfl Sz58 rfl rfl (by simp) (by simp [Value.oneCell']) (by first | (simp only [List.take_succ_cons, List.take_zero, List.take_nil, List.drop_succ_cons, List.drop_zero, List.drop_nil, List.nil_append, List.cons_append, List.append_nil, List.length_cons, List.length_nil, Nat.reduceAdd, Nat.zero_add]; rfl) | rfl) (by first | (simp only [List.set_cons_zero, List.set_cons_succ]; rfl) | rfl) ?_
    refine wl_q (q_assign rfl rfl) rfl rfl (by decide) ?_
    refine wl_nil ?_
    refine fq_then ?_
    refine wc_seq ?_
    refine wc_seq ?_
    refine wc_region ?_
    refine wl_q (q_move rfl rfl) rfl rfl (by decide) ?_
    refine wl_q (q_not rfl rfl) rfl rfl (by decide) ?_
    refine wl_nil ?_
    refine fq_then ?_
    refine wc_true rfl ?_
    refine wc_exit ?_
    refine fq_then_exit ?_
    refine fq_block_hit ?_
    refine fq_then ?_
    refine wc_region ?_
    refine wl_q (q_bin rfl rfl rfl rfl) rfl rfl (by decide) ?_
    refine wl_q (q_move rfl rfl) rfl rfl (by decide) ?_
    refine wl_nil ?_
    have hw : evW e = [] := by simp [evW, hf, ibs]
    refine fq_ownEq 3 (v' := .slice p.1 (4 + ((l.take (i + 1)).flatMap evW).length) p.2) (n' := 4 + ((l.take (i + 1)).flatMap evW).length) (xs' := (headW m g c b ++ (l.take (i + 1)).flatMap evW).map Value.string) rfl (by rw [row_len hle hw]; rfl) (by rw [row_len hle hw]; rfl) (by rw [row_next hle hw]; simp) ?_
    refine fq_next (i + 1, (p)) (by omega) (show l.length - (i + 1) < l.length - i by omega) ⟨List.forall_mem_cons.2 ⟨(show some (Value.slice _ _ _) = some (Value.slice _ _ _) from by rw [row_len hle hw]; rfl), List.forall_mem_cons.2 ⟨rfl, List.forall_mem_cons.2 ⟨rfl, List.forall_mem_cons.2 ⟨rfl, List.forall_mem_cons.2 ⟨(show some (Value.int .i64 (IntKind.i64.wrap ((i : Int) + 1))) = some (Value.int .i64 ((i + 1 : Nat) : Int)) from by rw [wrap_id (by omega)]; rfl), fun _ h => (by cases h)⟩⟩⟩⟩⟩, List.Sublist.cons _ (List.Sublist.cons _ (List.Sublist.cons_cons _ (List.Sublist.cons_cons _ (List.Sublist.cons_cons _ (List.Sublist.refl [])))))⟩
  · skip
    obtain ⟨hle, hf⟩ := evAt_some hev
    have hil := (List.getElem?_eq_some_iff.1 hle).1
    obtain ⟨ad, hA, hcev⟩ := hE.at hle
    have hsm := row_small (i := i) hl
    obtain ⟨hr1, hr2⟩ := hev0 e (List.mem_of_getElem? hle)
    refine wc_seq ?_
    refine wc_region ?_
    refine wl_q (OpQ.to (q_bin rfl rfl rfl rfl) (congrArg Value.bool (show decide _ = true by rw [decide_eq_true_eq]; omega))) rfl rfl (by decide) ?_
    refine wl_nil ?_
    refine fq_then ?_
    refine wc_seq ?_
    refine wc_true rfl ?_
    refine wc_skip ?_
    refine fq_then ?_
    refine wc_seq ?_
    refine wc_block ?_
    refine wc_seq ?_
    refine wc_region ?_
    refine wl_q (q_indexO rfl rfl hA rfl Tryz.underlying23 Sz49 (by omega) (by omega)) rfl rfl (by decide) ?_
    refine wl_q (q_loadA rfl rfl Mn49 Sz49 rfl (reads_old (by simp) hcev)) rfl rfl (by decide) ?_
    refine wl_alloc rfl rfl rfl (by decide) Zr49 (fun b5 => ?_)
    refine wl_store (i := 0) rfl rfl rfl rfl rfl rfl Sz49 rfl rfl (by simp) (by simp [Value.oneCell']) (by first | (simp only [List.take_succ_cons, List.take_zero, List.take_nil, List.drop_succ_cons, List.drop_zero, List.drop_nil, List.nil_append, List.cons_append, List.append_nil, List.length_cons, List.length_nil, Nat.reduceAdd, Nat.zero_add]; rfl) | rfl) (by first | (simp only [List.set_cons_zero, List.set_cons_succ]; rfl) | rfl) ?_
    refine wl_nil ?_
    refine fq_then ?_
    refine wc_seq ?_
    refine wc_region ?_
    refine wl_q (q_move rfl rfl) rfl rfl (by decide) ?_
    refine wl_q (q_fa (o1 := 0) rfl rfl Fo49_0 rfl) rfl rfl (by decide) ?_
    refine wl_q (q_load rfl rfl Mn3 (reads1 (i := 0) rfl rfl)) rfl rfl (by decide) ?_
    refine wl_q (q_lookupOk (i := 1) (v := .agg #[.string wd, .bool c1, .bool n1]) (c := true) rfl rfl rfl Tryz.underlying55 Tryz.underlying3 Zl58 rfl (by rw [find_form, hf]; rfl) (by rw [find_form, hf]; rfl)) rfl rfl (by decide) ?_
    refine wl_q (q_move rfl rfl) rfl rfl (by decide) ?_
    refine wl_q (q_extract rfl rfl rfl) rfl rfl (by decide) ?_
    refine wl_q (q_extract rfl rfl rfl) rfl rfl (by decide) ?_
    refine wl_alloc rfl rfl rfl (by decide) Zr58 (fun b6 => ?_)
    refine wl_store (i := 0) rfl rfl rfl rfl rfl rfl Sz58 rfl rfl (by simp) (by simp [Value.oneCell']) (by first | (simp only [List.take_succ_cons, List.take_zero, List.take_nil, List.drop_succ_cons, List.drop_zero, List.drop_nil, List.nil_append, List.cons_append, List.append_nil, List.length_cons, List.length_nil, Nat.reduceAdd, Nat.zero_add]; rfl) | rfl) (by first | (simp only [List.set_cons_zero, List.set_cons_succ]; rfl) | rfl) ?_
    refine wl_q (q_assign rfl rfl) rfl rfl (by decide) ?_
    refine wl_nil ?_
    refine fq_then ?_
    refine wc_seq ?_
    refine wc_seq ?_
    refine wc_region ?_
    refine wl_q (q_move rfl rfl) rfl rfl (by decide) ?_
    refine wl_q (q_not rfl rfl) rfl rfl (by decide) ?_
    refine wl_nil ?_
    refine fq_then ?_
    refine wc_false rfl ?_
    refine wc_skip ?_
    refine fq_then ?_
    refine wc_seq ?_
    refine wc_region ?_
    refine wl_q (q_move rfl rfl) rfl rfl (by decide) ?_
    refine wl_q (q_fa (o1 := 0) rfl rfl Fo58_0 rfl) rfl rfl (by decide) ?_
    refine wl_q (q_load rfl rfl Mn9 (reads1 (i := 0) rfl rfl)) rfl rfl (by decide) ?_
    refine wl_buildSlice rfl rfl rfl (by decide) rfl Tryz.underlying54 (built_one Sz9 (by decide) Zs9 (by decide) rfl rfl) (fun b7 => ?_)
    refine wl_append (i := 4) (m := 1) (news := [.string wd]) rfl rfl rfl (by decide) Tryz.underlying54 Ap9 (by decide) rfl rfl rfl (readsAll (i := 0) rfl) rfl (by simp [Value.oneCell']) (by unfold maxLen; omega) (by omega) (fun v43 _ => ?_)
    refine wl_ownForm (i := 4) rfl (fun A43 c43 e43 f43 => ?_)
    subst e43
    skip
    refine wl_q (q_assign rfl rfl) rfl rfl (by decide) ?_
    refine wl_nil ?_
    refine fq_then ?_
    refine wc_seq ?_
    refine wc_seq ?_
    refine wc_region ?_
    refine wl_q (q_fa (o1 := 1) rfl rfl Fo58_1 rfl) rfl rfl (by decide) ?_
    refine wl_q (q_load rfl rfl Mn4 (reads1 (i := 1) rfl rfl)) rfl rfl (by decide) ?_
    refine wl_nil ?_
    refine fq_then ?_
    refine wc_cond rfl (fun h45 => ?_) (fun h45 => ?_)
    · skip
      subst h45
      refine wc_region ?_
      refine wl_q (q_move rfl rfl) rfl rfl (by decide) ?_
      refine wl_q (q_fa (o1 := 1) rfl rfl Fo49_1 rfl) rfl rfl (by decide) ?_
      refine wl_q (q_load rfl rfl Mn3 (reads1 (i := 2) rfl rfl)) rfl rfl (by decide) ?_
      refine wl_q (q_call rfl En17 rfl (fun w1 hw1 => itoa_calls _ hr1 w1 (hL.below (hw1.toBelow (by simp))))) rfl rfl (by decide) ?_
      refine wl_buildSlice rfl rfl rfl (by decide) rfl Tryz.underlying54 (built_one Sz9 (by decide) Zs9 (by decide) rfl rfl) (fun b8 => ?_)
      refine wl_append (i := 5) (m := 1) (news := [.string (ibs e.f1)]) rfl rfl rfl (by decide) Tryz.underlying54 Ap9 (by decide) rfl rfl rfl (readsAll (i := 0) rfl) rfl (by simp [Value.oneCell']) (by unfold maxLen; omega) (by omega) (fun v51 _ => ?_)
      refine wl_ownForm (i := 5) rfl (fun A51 c51 e51 f51 => ?_)
      subst e51
      skip
      refine wl_q (q_assign rfl rfl) rfl rfl (by decide) ?_
      refine wl_nil ?_
      refine fq_then ?_
      refine wc_seq ?_
      refine wc_region ?_
      refine wl_q (q_fa (o1 := 2) rfl rfl Fo58_2 rfl) rfl rfl (by decide) ?_
      refine wl_q (q_load rfl rfl Mn4 (reads1 (i := 2) rfl rfl)) rfl rfl (by decide) ?_
      refine wl_nil ?_
      refine fq_then ?_
      refine wc_cond rfl (fun h53 => ?_) (fun h53 => ?_)
      · skip
        subst h53
        refine wc_region ?_
        refine wl_q (q_move rfl rfl) rfl rfl (by decide) ?_
        refine wl_q (q_fa (o1 := 2) rfl rfl Fo49_2 rfl) rfl rfl (by decide) ?_
        refine wl_q (q_load rfl rfl Mn3 (reads1 (i := 3) rfl rfl)) rfl rfl (by decide) ?_
        refine wl_q (q_call rfl En17 rfl (fun w1 hw1 => itoa_calls _ hr2 w1 (hL.below (hw1.toBelow (by simp))))) rfl rfl (by decide) ?_
        refine wl_buildSlice rfl rfl rfl (by decide) rfl Tryz.underlying54 (built_one Sz9 (by decide) Zs9 (by decide) rfl rfl) (fun b9 => ?_)
        refine wl_append (i := 6) (m := 1) (news := [.string (ibs e.f2)]) rfl rfl rfl (by decide) Tryz.underlying54 Ap9 (by decide) rfl rfl rfl (readsAll (i := 0) rfl) rfl (by simp [Value.oneCell']) (by unfold maxLen; omega) (by omega) (fun v59 _ => ?_)
        refine wl_ownForm (i := 6) rfl (fun A59 c59 e59 f59 => ?_)
        subst e59
        skip
        refine wl_q (q_assign rfl rfl) rfl rfl (by decide) ?_
        refine wl_nil ?_
        refine fq_block ?_
        refine fq_then ?_
        refine wc_region ?_
        refine wl_q (q_bin rfl rfl rfl rfl) rfl rfl (by decide) ?_
        refine wl_q (q_move rfl rfl) rfl rfl (by decide) ?_
        refine wl_nil ?_
        have hw : evW e = [wd, ibs e.f1, ibs e.f2] := by simp [evW, hf, ibs]
        refine fq_ownEq 6 (v' := .slice ((A59, c59) : Gh).1 (4 + ((l.take (i + 1)).flatMap evW).length) ((A59, c59) : Gh).2) (n' := 4 + ((l.take (i + 1)).flatMap evW).length) (xs' := (headW m g c b ++ (l.take (i + 1)).flatMap evW).map Value.string) rfl (by rw [row_len hle hw]; rfl) (by rw [row_len hle hw]; rfl) (by rw [row_next hle hw]; simp) ?_
        refine fq_next (i + 1, (((A59, c59) : Gh))) (by omega) (show l.length - (i + 1) < l.length - i by omega) ⟨List.forall_mem_cons.2 ⟨(show some (Value.slice _ _ _) = some (Value.slice _ _ _) from by rw [row_len hle hw]; rfl), List.forall_mem_cons.2 ⟨rfl, List.forall_mem_cons.2 ⟨rfl, List.forall_mem_cons.2 ⟨rfl, List.forall_mem_cons.2 ⟨(show some (Value.int .i64 (IntKind.i64.wrap ((i : Int) + 1))) = some (Value.int .i64 ((i + 1 : Nat) : Int)) from by rw [wrap_id (by omega)]; rfl), fun _ h => (by cases h)⟩⟩⟩⟩⟩, List.Sublist.cons _ (List.Sublist.cons _ (List.Sublist.cons _ (List.Sublist.cons _ (List.Sublist.cons _ (List.Sublist.cons_cons _ (List.Sublist.cons_cons _ (List.Sublist.cons_cons _ (List.Sublist.refl []))))))))⟩
      · skip
        subst h53
        refine wc_skip ?_
        refine fq_block ?_
        refine fq_then ?_
        refine wc_region ?_
        refine wl_q (q_bin rfl rfl rfl rfl) rfl rfl (by decide) ?_
        refine wl_q (q_move rfl rfl) rfl rfl (by decide) ?_
        refine wl_nil ?_
        have hw : evW e = [wd, ibs e.f1] := by simp [evW, hf, ibs]
        refine fq_ownEq 5 (v' := .slice ((A51, c51) : Gh).1 (4 + ((l.take (i + 1)).flatMap evW).length) ((A51, c51) : Gh).2) (n' := 4 + ((l.take (i + 1)).flatMap evW).length) (xs' := (headW m g c b ++ (l.take (i + 1)).flatMap evW).map Value.string) rfl (by rw [row_len hle hw]; rfl) (by rw [row_len hle hw]; rfl) (by rw [row_next hle hw]; simp) ?_
        refine fq_next (i + 1, (((A51, c51) : Gh))) (by omega) (show l.length - (i + 1) < l.length - i by omega) ⟨List.forall_mem_cons.2 ⟨(show some (Value.slice _ _ _) = some (Value.slice _ _ _) from by rw [row_len hle hw]; rfl), List.forall_mem_cons.2 ⟨rfl, List.forall_mem_cons.2 ⟨rfl, List.forall_mem_cons.2 ⟨rfl, List.forall_mem_cons.2 ⟨(show some (Value.int .i64 (IntKind.i64.wrap ((i : Int) + 1))) = some (Value.int .i64 ((i + 1 : Nat) : Int)) from by rw [wrap_id (by omega)]; rfl), fun _ h => (by cases h)⟩⟩⟩⟩⟩, List.Sublist.cons _ (List.Sublist.cons _ (List.Sublist.cons _ (List.Sublist.cons _ (List.Sublist.cons_cons _ (List.Sublist.cons_cons _ (List.Sublist.cons_cons _ (List.Sublist.refl [])))))))⟩
    · skip
      subst h45
      refine wc_skip ?_
      refine fq_then ?_
      refine wc_seq ?_
      refine wc_region ?_
      refine wl_q (q_fa (o1 := 2) rfl rfl Fo58_2 rfl) rfl rfl (by decide) ?_
      refine wl_q (q_load rfl rfl Mn4 (reads1 (i := 1) rfl rfl)) rfl rfl (by decide) ?_
      refine wl_nil ?_
      refine fq_then ?_
      refine wc_cond rfl (fun h53 => ?_) (fun h53 => ?_)
      · skip
        subst h53
        refine wc_region ?_
        refine wl_q (q_move rfl rfl) rfl rfl (by decide) ?_
        refine wl_q (q_fa (o1 := 2) rfl rfl Fo49_2 rfl) rfl rfl (by decide) ?_
        refine wl_q (q_load rfl rfl Mn3 (reads1 (i := 2) rfl rfl)) rfl rfl (by decide) ?_
        refine wl_q (q_call rfl En17 rfl (fun w1 hw1 => itoa_calls _ hr2 w1 (hL.below (hw1.toBelow (by simp))))) rfl rfl (by decide) ?_
        refine wl_buildSlice rfl rfl rfl (by decide) rfl Tryz.underlying54 (built_one Sz9 (by decide) Zs9 (by decide) rfl rfl) (fun b10 => ?_)
        refine wl_append (i := 5) (m := 1) (news := [.string (ibs e.f2)]) rfl rfl rfl (by decide) Tryz.underlying54 Ap9 (by decide) rfl rfl rfl (readsAll (i := 0) rfl) rfl (by simp [Value.oneCell']) (by unfold maxLen; omega) (by omega) (fun v59 _ => ?_)
        refine wl_ownForm (i := 5) rfl (fun A59 c59 e59 f59 => ?_)
        subst e59
        skip
        refine wl_q (q_assign rfl rfl) rfl rfl (by decide) ?_
        refine wl_nil ?_
        refine fq_block ?_
        refine fq_then ?_
        refine wc_region ?_
        refine wl_q (q_bin rfl rfl rfl rfl) rfl rfl (by decide) ?_
        refine wl_q (q_move rfl rfl) rfl rfl (by decide) ?_
        refine wl_nil ?_
        have hw : evW e = [wd, ibs e.f2] := by simp [evW, hf, ibs]
        refine fq_ownEq 5 (v' := .slice ((A59, c59) : Gh).1 (4 + ((l.take (i + 1)).flatMap evW).length) ((A59, c59) : Gh).2) (n' := 4 + ((l.take (i + 1)).flatMap evW).length) (xs' := (headW m g c b ++ (l.take (i + 1)).flatMap evW).map Value.string) rfl (by rw [row_len hle hw]; rfl) (by rw [row_len hle hw]; rfl) (by rw [row_next hle hw]; simp) ?_
        refine fq_next (i + 1, (((A59, c59) : Gh))) (by omega) (show l.length - (i + 1) < l.length - i by omega) ⟨List.forall_mem_cons.2 ⟨(show some (Value.slice _ _ _) = some (Value.slice _ _ _) from by rw [row_len hle hw]; rfl), List.forall_mem_cons.2 ⟨rfl, List.forall_mem_cons.2 ⟨rfl, List.forall_mem_cons.2 ⟨rfl, List.forall_mem_cons.2 ⟨(show some (Value.int .i64 (IntKind.i64.wrap ((i : Int) + 1))) = some (Value.int .i64 ((i + 1 : Nat) : Int)) from by rw [wrap_id (by omega)]; rfl), fun _ h => (by cases h)⟩⟩⟩⟩⟩, List.Sublist.cons _ (List.Sublist.cons _ (List.Sublist.cons _ (List.Sublist.cons _ (List.Sublist.cons_cons _ (List.Sublist.cons_cons _ (List.Sublist.cons_cons _ (List.Sublist.refl [])))))))⟩
      · skip
        subst h53
        refine wc_skip ?_
        refine fq_block ?_
        refine fq_then ?_
        refine wc_region ?_
        refine wl_q (q_bin rfl rfl rfl rfl) rfl rfl (by decide) ?_
        refine wl_q (q_move rfl rfl) rfl rfl (by decide) ?_
        refine wl_nil ?_
        have hw : evW e = [wd] := by simp [evW, hf, ibs]
        refine fq_ownEq 4 (v' := .slice ((A43, c43) : Gh).1 (4 + ((l.take (i + 1)).flatMap evW).length) ((A43, c43) : Gh).2) (n' := 4 + ((l.take (i + 1)).flatMap evW).length) (xs' := (headW m g c b ++ (l.take (i + 1)).flatMap evW).map Value.string) rfl (by rw [row_len hle hw]; rfl) (by rw [row_len hle hw]; rfl) (by rw [row_next hle hw]; simp) ?_
        refine fq_next (i + 1, (((A43, c43) : Gh))) (by omega) (show l.length - (i + 1) < l.length - i by omega) ⟨List.forall_mem_cons.2 ⟨(show some (Value.slice _ _ _) = some (Value.slice _ _ _) from by rw [row_len hle hw]; rfl), List.forall_mem_cons.2 ⟨rfl, List.forall_mem_cons.2 ⟨rfl, List.forall_mem_cons.2 ⟨rfl, List.forall_mem_cons.2 ⟨(show some (Value.int .i64 (IntKind.i64.wrap ((i : Int) + 1))) = some (Value.int .i64 ((i + 1 : Nat) : Int)) from by rw [wrap_id (by omega)]; rfl), fun _ h => (by cases h)⟩⟩⟩⟩⟩, List.Sublist.cons _ (List.Sublist.cons _ (List.Sublist.cons _ (List.Sublist.cons_cons _ (List.Sublist.cons_cons _ (List.Sublist.cons_cons _ (List.Sublist.refl []))))))⟩
end Go.Proofs.YtglgipggefpoiaaGreatDoor.SF
end
section
namespace Go.Proofs.YtglgipggefpoiaaGreatDoor.SF
open Go.RowKit Go.Sx Go.Proofs.YtglgipggefpoiaaGreatDoor.PAll Go.Proofs.YtglgipggefpoiaaGreatDoorW.PrintWords Go.Proofs.YtglgipggefpoiaaGreatDoorW.PrintLast Go.Proofs.YtglgipggefpoiaaGreatDoorW.PrintMore
set_option linter.unusedVariables false
set_option linter.unusedSimpArgs false
set_option maxRecDepth 100000
def ex1 : ByteArray := ⟨#[109, 97, 105, 110, 115, 32, 110, 111, 110, 101, 32, 48, 32, 48, 32, 99, 97, 108, 108, 32, 48, 32, 51]⟩
def ex2 : ByteArray := ⟨#[109, 97, 105, 110, 115, 32, 110, 111, 110, 101, 32, 48, 32, 48, 48]⟩
theorem ex1_tick : tickP ex1 = ((true, false, 0, 0, [⟨1, 0, 3⟩]), 0) := by kernel_rfl
theorem ex2_tick : tickP ex2 = ((false, false, 0, 0, []), 11) := by kernel_rfl
theorem ex1_put : putS true false 0 0 [⟨1, 0, 3⟩] = ex1 := by kernel_rfl
theorem parseE {s : ByteArray} {m g : Bool} {c : Int} {b : Nat} {L : List S49} {err : Int} (h : tickP s = ((m, g, c, b, L), err)) (w : World) (hL : Lw w) : Calls Tryz.prog 11 #[.string s] w fun e w' => ∃ q : Gh, RowE w' q L ∧ e = .returned (.tuple #[.agg #[.bool m, .bool g, .int .i64 c, .int .u64 b, .slice q.1 L.length q.2], .int .i64 err]) ∧ Below w.heap.size w w' := by
  have := parse_calls s w hL
  rw [h] at this
  exact this.mono (fun e w' ⟨q, h1, h2, h3⟩ => ⟨q, h2, h1, h3⟩)
theorem parseT (s : ByteArray) (w : World) (hL : Lw w) : Calls Tryz.prog 11 #[.string s] w fun e w' => ∃ q : Gh, RowE w' q (tickP s).1.2.2.2.2 ∧ e = .returned (.tuple #[.agg #[.bool (tickP s).1.1, .bool (tickP s).1.2.1, .int .i64 (tickP s).1.2.2.1, .int .u64 (tickP s).1.2.2.2.1, .slice q.1 (tickP s).1.2.2.2.2.length q.2], .int .i64 (tickP s).2]) ∧ Below w.heap.size w w' :=
  (parse_calls s w hL).mono (fun e w' ⟨q, h1, h2, h3⟩ => ⟨q, h2, h1, h3⟩)
theorem eqA49 (d : Nat) (w : World) (x0 y0 x1 y1 x2 y2 : Int) : (Op.equalIn (d + 2) 49 (.agg #[.int .i64 x0, .int .i64 x1, .int .i64 x2]) (.agg #[.int .i64 y0, .int .i64 y1, .int .i64 y2])).run Tryz.prog w = .ok (x0 == y0 && (x1 == y1 && (x2 == y2))) w := by
  refine eqA_of Tryz.underlying49 (by kernel_rfl) ?_
  refine eqf_cons (by rfl) (by go_simp; rfl) (by go_simp; rfl) (by go_simp) ?_
  refine eqf_cons (by rfl) (by go_simp; rfl) (by go_simp; rfl) (by go_simp) ?_
  exact eqf_last (by rfl) (by go_simp; rfl) (by go_simp; rfl) (by go_simp)
theorem eq49 (w : World) (x0 y0 x1 y1 x2 y2 : Int) : (Op.equal 49 (.agg #[.int .i64 x0, .int .i64 x1, .int .i64 x2]) (.agg #[.int .i64 y0, .int .i64 y1, .int .i64 y2])).run Tryz.prog w = .ok (x0 == y0 && (x1 == y1 && (x2 == y2))) w := by
  have h := eqA49 (Op.maxDepth - 2) w x0 y0 x1 y1 x2 y2
  rw [show Op.maxDepth - 2 + 2 = Op.maxDepth from rfl] at h
  simpa [Op.equal] using h
set_option maxHeartbeats 1000000 in
theorem awake_calls (w : World) (hL : Lw w) : Calls Tryz.prog 7 #[] w fun e w' => e = .returned (.bool true) ∧ Below w.heap.size w w' := by
  refine enter (w0 := w) (hp := [old w]) (env := []) Tryz.func7 rfl 51 rfl (by simp) rfl (HeapOK.start _) ?_
  refine wc_seq ?_
  refine wc_region ?_
  refine wl_q (q_assign rfl rfl) rfl rfl (by decide) ?_
  refine wl_nil ?_
  refine fq_then ?_
  refine wc_seq ?_
  refine wc_region ?_
  refine wl_callK (ι := Gh) (fun i => .tuple #[.agg #[.bool true, .bool false, .int .i64 0, .int .u64 0, .slice i.1 [⟨1, 0, 3⟩].length i.2], .int .i64 0]) (fun i w w' => RowE w' i [⟨1, 0, 3⟩]) rfl rfl rfl (by decide) En11 rfl (fun w1 hw1 => parseE (m := true) (g := false) (c := 0) (b := 0) (L := [⟨1, 0, 3⟩]) (err := 0) ex1_tick w1 (hL.below (hw1.toBelow (by simp)))) (fun p1 wa_ w_1 _ Hn_ _ hC_ => ?_)
  have hx_ := Hn_.toBelow (by simp)
  have hL := hL.below hx_
  have hB := hx_
  have hE_p1 := hC_
  refine wl_q (q_move rfl rfl) rfl rfl (by decide) ?_
  refine wl_q (q_extract rfl rfl rfl) rfl rfl (by decide) ?_
  refine wl_q (q_extract rfl rfl rfl) rfl rfl (by decide) ?_
  refine wl_alloc rfl rfl rfl (by decide) Zr25 (fun b2 => ?_)
  refine wl_store (i := 0) rfl rfl rfl rfl rfl rfl Sz25 rfl rfl (by simp) (by simp [Value.oneCell']) (by first | (simp only [List.take_succ_cons, List.take_zero, List.take_nil, List.drop_succ_cons, List.drop_zero, List.drop_nil, List.nil_append, List.cons_append, List.append_nil, List.length_cons, List.length_nil, Nat.reduceAdd, Nat.zero_add]; rfl) | rfl) (by first | (simp only [List.set_cons_zero, List.set_cons_succ]; rfl) | rfl) ?_
  refine wl_q (q_assign rfl rfl) rfl rfl (by decide) ?_
  refine wl_nil ?_
  refine fq_then ?_
  refine wc_seq ?_
  refine wc_region ?_
  refine wl_callK (ι := Gh) (fun i => .tuple #[.agg #[.bool false, .bool false, .int .i64 0, .int .u64 0, .slice i.1 [].length i.2], .int .i64 11]) (fun i w w' => RowE w' i []) rfl rfl rfl (by decide) En11 rfl (fun w1 hw1 => parseE (m := false) (g := false) (c := 0) (b := 0) (L := []) (err := 11) ex2_tick w1 (hL.below (hw1.toBelow (by simp)))) (fun p2 wa_ w_3 _ Hn_ _ hC_ => ?_)
  have hx_ := Hn_.toBelow (by simp)
  have fb_b2 : Blk w_3 b2 _ _ := Hn_.get (i := 0) rfl
  have hL := hL.below hx_
  have hE_p1 := hE_p1.below hx_
  have hB := hB.next hx_
  have hE_p2 := hC_
  refine wl_q (q_move rfl rfl) rfl rfl (by decide) ?_
  refine wl_q (q_extract rfl rfl rfl) rfl rfl (by decide) ?_
  refine wl_q (q_extract rfl rfl rfl) rfl rfl (by decide) ?_
  refine wl_alloc rfl rfl rfl (by decide) Zr25 (fun b4 => ?_)
  refine wl_store (i := 0) rfl rfl rfl rfl rfl rfl Sz25 rfl rfl (by simp) (by simp [Value.oneCell']) (by first | (simp only [List.take_succ_cons, List.take_zero, List.take_nil, List.drop_succ_cons, List.drop_zero, List.drop_nil, List.nil_append, List.cons_append, List.append_nil, List.length_cons, List.length_nil, Nat.reduceAdd, Nat.zero_add]; rfl) | rfl) (by first | (simp only [List.set_cons_zero, List.set_cons_succ]; rfl) | rfl) ?_
  refine wl_q (q_assign rfl rfl) rfl rfl (by decide) ?_
  refine wl_nil ?_
  refine fq_then ?_
  refine wc_seq ?_
  obtain ⟨ad1, hA1, hr1⟩ := hE_p1.at (i := 0) (e := ⟨1, 0, 3⟩) rfl
  refine wc_region ?_
  refine wl_q (q_move rfl rfl) rfl rfl (by decide) ?_
  refine wl_q (OpQ.to (q_bin rfl rfl rfl rfl) (congrArg Value.bool (by rfl))) rfl rfl (by decide) ?_
  refine wl_q (q_move rfl rfl) rfl rfl (by decide) ?_
  refine wl_want (b := true) (q_fa (o1 := 0) rfl rfl Fo25_0 rfl) rfl rfl rfl rfl (by decide) ?_
  refine wl_want (b := true) (q_load rfl rfl Mn4 (reads_blk (by simp) fb_b2 rfl)) rfl rfl rfl rfl (by decide) ?_
  refine wl_q (q_pick rfl rfl rfl) rfl rfl (by decide) ?_
  refine wl_q (q_move rfl rfl) rfl rfl (by decide) ?_
  refine wl_want (b := true) (q_fa (o1 := 1) rfl rfl Fo25_1 rfl) rfl rfl rfl rfl (by decide) ?_
  refine wl_want (b := true) (q_load rfl rfl Mn4 (reads_blk (by simp) fb_b2 rfl)) rfl rfl rfl rfl (by decide) ?_
  refine wl_want (b := true) (q_not rfl rfl) rfl rfl rfl rfl (by decide) ?_
  refine wl_q (q_pick rfl rfl rfl) rfl rfl (by decide) ?_
  refine wl_q (q_move rfl rfl) rfl rfl (by decide) ?_
  refine wl_want (b := true) (q_fa (o1 := 4) rfl rfl Fo25_4 rfl) rfl rfl rfl rfl (by decide) ?_
  refine wl_want (b := true) (q_load rfl rfl Mn23 (reads_blk (by simp) fb_b2 rfl)) rfl rfl rfl rfl (by decide) ?_
  refine wl_want (b := true) (q_len rfl rfl Tryz.underlying23) rfl rfl rfl rfl (by decide) ?_
  refine wl_want (b := true) (OpQ.to (q_bin rfl rfl rfl rfl) (congrArg Value.bool (by rfl))) rfl rfl rfl rfl (by decide) ?_
  refine wl_q (q_pick rfl rfl rfl) rfl rfl (by decide) ?_
  refine wl_q (q_move rfl rfl) rfl rfl (by decide) ?_
  refine wl_want (b := true) (q_fa (o1 := 4) rfl rfl Fo25_4 rfl) rfl rfl rfl rfl (by decide) ?_
  refine wl_want (b := true) (q_load rfl rfl Mn23 (reads_blk (by simp) fb_b2 rfl)) rfl rfl rfl rfl (by decide) ?_
  refine wl_want (b := true) (q_indexO rfl rfl hA1 rfl Tryz.underlying23 Sz49 (by decide) (by decide)) rfl rfl rfl rfl (by decide) ?_
  refine wl_want (b := true) (q_loadA rfl rfl Mn49 Sz49 rfl (reads_old (cs := [.int .i64 1, .int .i64 0, .int .i64 3]) (by simp) hr1)) rfl rfl rfl rfl (by decide) ?_
  refine wl_want (b := true) (q_build rfl rfl (built_of Zr49 Pl49 (by simp only [fillL, List.map_cons, List.map_nil, Value.cells, List.getElem?_cons_zero, List.getElem?_cons_succ, List.length_cons, List.length_nil, Nat.reduceAdd, Nat.reduceLeDiff, Nat.le_refl, and_self, and_true, true_and, if_true, Nat.zero_add, spl, List.take_succ_cons, List.take_zero, List.take_nil, List.drop_succ_cons, List.drop_zero, List.drop_nil, List.nil_append, List.cons_append, List.append_nil] <;> rfl))) rfl rfl rfl rfl (by decide) ?_
  refine wl_want (b := true) (OpQ.to (q_eqAgg (c := true) rfl (.inl rfl) rfl rfl (by kernel_rfl) (fun w1 => eq49 w1 _ _ _ _ _ _)) rfl) rfl rfl rfl rfl (by decide) ?_
  refine wl_q (q_pick rfl rfl rfl) rfl rfl (by decide) ?_
  refine wl_q (q_move rfl rfl) rfl rfl (by decide) ?_
  refine wl_want (b := true) (q_move rfl rfl) rfl rfl rfl rfl (by decide) ?_
  refine wl_want (b := true) (OpQ.to (q_bin rfl rfl rfl rfl) (congrArg Value.bool (by rfl))) rfl rfl rfl rfl (by decide) ?_
  refine wl_q (q_pick rfl rfl rfl) rfl rfl (by decide) ?_
  refine wl_q (q_move rfl rfl) rfl rfl (by decide) ?_
  refine wl_want (b := true) (q_loadA rfl rfl Mn25 Sz25 rfl (reads_blkA (by simp) fb_b2)) rfl rfl rfl rfl (by decide) ?_
  refine wl_want (b := true) (q_call rfl En8 rfl (fun w1 hw1 => put_calls true false 0 0 p1 [⟨1, 0, 3⟩] w1 (hL.below (hw1.toBelow (by simp))) (hE_p1.below (hw1.toBelow (by simp))) (by unfold i64r; decide) (by decide) (by decide) (by unfold i64r; decide))) rfl rfl rfl rfl (by decide) ?_
  refine wl_want (b := true) (q_eqlStr (c := true) rfl (.inl ⟨rfl, show ((putS true false 0 0 [⟨1, 0, 3⟩]).toList == ex1.toList) = true from by rw [ex1_put]; exact beq_self_eq_true _⟩) rfl rfl (fun w => rfl)) rfl rfl rfl rfl (by decide) ?_
  refine wl_q (q_pick rfl rfl rfl) rfl rfl (by decide) ?_
  refine wl_q (q_move rfl rfl) rfl rfl (by decide) ?_
  refine wl_want (b := true) (q_call rfl En15 rfl (fun w1 hw1 => show_nil w1)) rfl rfl rfl rfl (by decide) ?_
  refine wl_want (b := true) (q_eqlStr (c := true) rfl (.inl ⟨rfl, by simp⟩) rfl rfl (fun w => rfl)) rfl rfl rfl rfl (by decide) ?_
  refine wl_q (q_pick rfl rfl rfl) rfl rfl (by decide) ?_
  refine wl_q (q_assign rfl rfl) rfl rfl (by decide) ?_
  refine wl_nil ?_
  refine fq_then ?_
  refine wc_ret ?_
  refine fq_ret1 rfl rfl (fun w1 H => ?_)
  exact ⟨rfl, (by first | exact hB.next (H.toBelow (by simp)) | exact H.toBelow (by simp))⟩
end Go.Proofs.YtglgipggefpoiaaGreatDoor.SF
end
section
namespace Go.Proofs.YtglgipggefpoiaaGreatDoor.SF
open Go.RowKit Go.Sx Go.Proofs.YtglgipggefpoiaaGreatDoor.PAll Go.Proofs.YtglgipggefpoiaaGreatDoorW.PrintWords Go.Proofs.YtglgipggefpoiaaGreatDoorW.PrintLast Go.Proofs.YtglgipggefpoiaaGreatDoorW.PrintMore
set_option linter.unusedVariables false
set_option linter.unusedSimpArgs false
set_option maxRecDepth 100000
theorem long_rng {x : Int} (h : 0 ≤ x ∧ x < 65536) : 4097 ≤ IntKind.i64.wrap (4097 + IntKind.i64.wrap (Int.tmod x 500)) ∧ IntKind.i64.wrap (4097 + IntKind.i64.wrap (Int.tmod x 500)) ≤ 4596 := by
  have h1 : Int.tmod x 500 = x % 500 := Int.tmod_eq_emod_of_nonneg h.1
  have h2 : IntKind.i64.wrap (x % 500) = x % 500 := wrap_id (by omega)
  rw [h1, h2, wrap_id (by omega)]
  omega
theorem app_data (a b : ByteArray) : (a ++ b).data.toList = a.data.toList ++ b.data.toList := by simp
set_option maxHeartbeats 1000000 in
theorem long_law (m g : Bool) (c : Int) (b : Nat) (q : Gh) (l : List S49) (w : World) (hr : RowE w q l) (hc : i64r c) (hb : b < 18446744073709551616) (he : ∀ e ∈ l, i64r e.f1 ∧ i64r e.f2) (hL : Lw w) (more : Int) (hm : 0 ≤ more ∧ more < 65536) : Calls Tryz.prog 6 #[.agg #[.bool m, .bool g, .int .i64 c, .int .u64 b, .slice q.1 l.length q.2], .int .u16 more] w fun e w' => e = .returned (.bool true) ∧ Below w.heap.size w w' := by
  obtain ⟨hm1, hm2⟩ := long_rng hm
  have hzs : (strOfNums (List.replicate (IntKind.i64.wrap (4097 + IntKind.i64.wrap (Int.tmod more 500))).toNat 0)).size = (IntKind.i64.wrap (4097 + IntKind.i64.wrap (Int.tmod more 500))).toNat := by rw [strOfNums_size, List.length_replicate]
  have h32 : (⟨#[32]⟩ : ByteArray).size = 1 := rfl
  obtain ⟨zs, hz⟩ : ∃ s, strOfNums (List.replicate (IntKind.i64.wrap (4097 + IntKind.i64.wrap (Int.tmod more 500))).toNat 0) = s := ⟨_, rfl⟩
  rw [hz] at hzs
  obtain ⟨s1, hs1⟩ : ∃ s, (putS m g c b l) ++ zs = s := ⟨_, rfl⟩
  obtain ⟨s2, hs2⟩ : ∃ s : ByteArray, (putS m g c b l) ++ (⟨#[32]⟩ : ByteArray) = s := ⟨_, rfl⟩
  obtain ⟨s3, hs3⟩ : ∃ s : ByteArray, (⟨#[32]⟩ : ByteArray) ++ (putS m g c b l) = s := ⟨_, rfl⟩
  have hn1 : s1.size = (putS m g c b l).size + zs.size := by rw [← hs1, ByteArray.size_append]
  have hn2 : s2.size = (putS m g c b l).size + 1 := by rw [← hs2, ByteArray.size_append, h32]
  have hn3 : s3.size = 1 + (putS m g c b l).size := by rw [← hs3, ByteArray.size_append, h32]
  have hd2 : s2.data.toList = (putS m g c b l).data.toList ++ [32] := by rw [← hs2, app_data]
  have hd3 : s3.data.toList = 32 :: (putS m g c b l).data.toList := by rw [← hs3, app_data]; rfl
  refine enter (w0 := w) (hp := [old w]) (env := [(0, .agg #[.bool m, .bool g, .int .i64 c, .int .u64 b, .slice q.1 l.length q.2]), (1, .int .u16 more)]) Tryz.func6 rfl 69 rfl (by simp) rfl (HeapOK.start _) ?_
  refine wc_seq ?_
  refine wc_region ?_
  refine wl_box rfl rfl rfl (by decide) rfl rfl (fun b1 => ?_)
  refine wl_q (q_assign rfl rfl) rfl rfl (by decide) ?_
  refine wl_nil ?_
  refine fq_then ?_
  refine wc_seq ?_
  refine wc_region ?_
  refine wl_q (q_call rfl En7 rfl (fun w1 hw1 => awake_calls w1 (hL.below (hw1.toBelow (by simp))))) rfl rfl (by decide) ?_
  refine wl_q (q_assign rfl rfl) rfl rfl (by decide) ?_
  refine wl_nil ?_
  refine fq_then ?_
  refine wc_seq ?_
  refine wc_seq ?_
  refine wc_region ?_
  refine wl_q (q_move rfl rfl) rfl rfl (by decide) ?_
  refine wl_q (q_not rfl rfl) rfl rfl (by decide) ?_
  refine wl_nil ?_
  refine fq_then ?_
  refine wc_false rfl ?_
  refine wc_skip ?_
  refine fq_then ?_
  refine wc_seq ?_
  refine wc_seq ?_
  refine wc_region ?_
  refine wl_q (q_fa (o1 := 4) rfl rfl Fo25_4 rfl) rfl rfl (by decide) ?_
  refine wl_q (q_load rfl rfl Mn23 (reads1 (i := 0) rfl rfl)) rfl rfl (by decide) ?_
  refine wl_q (q_len rfl rfl Tryz.underlying23) rfl rfl (by decide) ?_
  refine wl_q (q_bin rfl rfl rfl rfl) rfl rfl (by decide) ?_
  refine wl_nil ?_
  refine fq_then ?_
  refine wc_cond rfl (fun h22 => ?_) (fun h22 => ?_)
  · skip
    have q22 := h22
    try simp only [decide_eq_true_eq, decide_eq_false_iff_not, beq_iff_eq, beq_eq_false_iff_ne, bne_iff_ne, ne_eq, bne_eq_false_iff_eq, Int.not_lt, Int.not_le] at q22
    refine wc_seq ?_
    refine wc_region ?_
    refine wl_q (q_assign rfl rfl) rfl rfl (by decide) ?_
    refine wl_nil ?_
    refine fq_then ?_
    refine wc_ret ?_
    refine fq_then_ret ?_
    refine fq_ret1 rfl rfl (fun w1 H => ?_)
    exact ⟨rfl, (by first | exact hB.next (H.toBelow (by simp)) | exact H.toBelow (by simp))⟩
  · skip
    have q22 := h22
    try simp only [decide_eq_true_eq, decide_eq_false_iff_not, beq_iff_eq, beq_eq_false_iff_ne, bne_iff_ne, ne_eq, bne_eq_false_iff_eq, Int.not_lt, Int.not_le] at q22
    have hpl := put_len m g hc hb he
    have hl40 : l.length ≤ 40 := by omega
    refine wc_skip ?_
    refine fq_then ?_
    refine wc_seq ?_
    refine wc_region ?_
    refine wl_q (q_loadA rfl rfl Mn25 Sz25 rfl (readsAll (i := 0) rfl)) rfl rfl (by decide) ?_
    refine wl_q (q_call rfl En8 rfl (fun w1 hw1 => put_calls m g c b q l w1 (hL.below (hw1.toBelow (by simp))) (hr.below (hw1.toBelow (by simp))) hc hb (by omega) he)) rfl rfl (by decide) ?_
    refine wl_q (q_assign rfl rfl) rfl rfl (by decide) ?_
    refine wl_nil ?_
    refine fq_then ?_
    refine wc_seq ?_
    refine wc_region ?_
    refine wl_q (q_move rfl rfl) rfl rfl (by decide) ?_
    refine wl_q (q_rem rfl rfl rfl (by decide)) rfl rfl (by decide) ?_
    refine wl_q (q_conv rfl rfl Tryz.underlying36 Tryz.underlying3) rfl rfl (by decide) ?_
    refine wl_q (q_bin rfl rfl rfl rfl) rfl rfl (by decide) ?_
    refine wl_makeBytes (n := (IntKind.i64.wrap (4097 + IntKind.i64.wrap (Int.tmod more 500)))) rfl rfl rfl (by decide) rfl rfl Tryz.underlying35 (by kernel_rfl) (by kernel_rfl) (by omega) (by omega) (fun bz => ?_)
    skip
    refine wl_q (OpQ.to (q_blkStr (i := 0) (bs := List.replicate (IntKind.i64.wrap (4097 + IntKind.i64.wrap (Int.tmod more 500))).toNat 0) (pad := []) rfl rfl Tryz.underlying35 Tryz.underlying5 Tryz.underlying9 rfl (by simp) (by rw [List.length_replicate]; omega)) (congrArg Value.string hz)) rfl rfl (by decide) ?_
    refine wl_q (q_assign rfl rfl) rfl rfl (by decide) ?_
    refine wl_nil ?_
    refine fq_then ?_
    refine wc_seq ?_
    refine wc_region ?_
    refine wl_q (q_move rfl rfl) rfl rfl (by decide) ?_
    refine wl_q (q_move rfl rfl) rfl rfl (by decide) ?_
    refine wl_q (q_addS (c := s1) rfl rfl rfl (by omega) hs1) rfl rfl (by decide) ?_
    refine wl_callK (ι := Gh) (fun i => .tuple #[.agg #[.bool (tickP s1).1.1, .bool (tickP s1).1.2.1, .int .i64 (tickP s1).1.2.2.1, .int .u64 (tickP s1).1.2.2.2.1, .slice i.1 (tickP s1).1.2.2.2.2.length i.2], .int .i64 (tickP s1).2]) (fun i w w' => RowE w' i (tickP s1).1.2.2.2.2) rfl rfl rfl (by decide) En11 rfl (fun w1 hw1 => parseT s1 w1 (hL.below (hw1.toBelow (by simp)))) (fun p1 wa_ w_2 _ Hn_ _ hC_ => ?_)
    have hx_ := Hn_.toBelow (by simp)
    have fb_bz : Blk w_2 bz _ _ := Hn_.get (i := 0) rfl
    have fb_b1 : Blk w_2 b1 _ _ := Hn_.get (i := 1) rfl
    have hL := hL.below hx_
    have hr := hr.below hx_
    have hB := hx_
    have hE_p1 := hC_
    refine wl_q (q_move rfl rfl) rfl rfl (by decide) ?_
    refine wl_q (q_extract rfl rfl rfl) rfl rfl (by decide) ?_
    refine wl_q (q_extract rfl rfl rfl) rfl rfl (by decide) ?_
    refine wl_alloc rfl rfl rfl (by decide) Zr25 (fun b3 => ?_)
    refine wl_store (i := 0) rfl rfl rfl rfl rfl rfl Sz25 rfl rfl (by simp) (by simp [Value.oneCell']) (by first | (simp only [List.take_succ_cons, List.take_zero, List.take_nil, List.drop_succ_cons, List.drop_zero, List.drop_nil, List.nil_append, List.cons_append, List.append_nil, List.length_cons, List.length_nil, Nat.reduceAdd, Nat.zero_add]; rfl) | rfl) (by first | (simp only [List.set_cons_zero, List.set_cons_succ]; rfl) | rfl) ?_
    refine wl_q (q_assign rfl rfl) rfl rfl (by decide) ?_
    refine wl_nil ?_
    refine fq_then ?_
    refine wc_seq ?_
    refine wc_region ?_
    refine wl_q (q_move rfl rfl) rfl rfl (by decide) ?_
    refine wl_q (q_addS (c := s2) rfl rfl rfl (by omega) hs2) rfl rfl (by decide) ?_
    refine wl_callK (ι := Gh) (fun i => .tuple #[.agg #[.bool (tickP s2).1.1, .bool (tickP s2).1.2.1, .int .i64 (tickP s2).1.2.2.1, .int .u64 (tickP s2).1.2.2.2.1, .slice i.1 (tickP s2).1.2.2.2.2.length i.2], .int .i64 (tickP s2).2]) (fun i w w' => RowE w' i (tickP s2).1.2.2.2.2) rfl rfl rfl (by decide) En11 rfl (fun w1 hw1 => parseT s2 w1 (hL.below (hw1.toBelow (by simp)))) (fun p2 wa_ w_4 _ Hn_ _ hC_ => ?_)
    have hx_ := Hn_.toBelow (by simp)
    have fb_b3 : Blk w_4 b3 _ _ := Hn_.get (i := 0) rfl
    have hL := hL.below hx_
    have hr := hr.below hx_
    have fb_bz := fb_bz.below hx_
    have fb_b1 := fb_b1.below hx_
    have hE_p1 := hE_p1.below hx_
    have hB := hB.next hx_
    have hE_p2 := hC_
    refine wl_q (q_move rfl rfl) rfl rfl (by decide) ?_
    refine wl_q (q_extract rfl rfl rfl) rfl rfl (by decide) ?_
    refine wl_q (q_extract rfl rfl rfl) rfl rfl (by decide) ?_
    refine wl_alloc rfl rfl rfl (by decide) Zr25 (fun b5 => ?_)
    refine wl_store (i := 0) rfl rfl rfl rfl rfl rfl Sz25 rfl rfl (by simp) (by simp [Value.oneCell']) (by first | (simp only [List.take_succ_cons, List.take_zero, List.take_nil, List.drop_succ_cons, List.drop_zero, List.drop_nil, List.nil_append, List.cons_append, List.append_nil, List.length_cons, List.length_nil, Nat.reduceAdd, Nat.zero_add]; rfl) | rfl) (by first | (simp only [List.set_cons_zero, List.set_cons_succ]; rfl) | rfl) ?_
    refine wl_q (q_assign rfl rfl) rfl rfl (by decide) ?_
    refine wl_nil ?_
    refine fq_then ?_
    refine wc_seq ?_
    refine wc_region ?_
    refine wl_q (q_move rfl rfl) rfl rfl (by decide) ?_
    refine wl_q (q_addS (c := s3) rfl rfl rfl (by omega) hs3) rfl rfl (by decide) ?_
    refine wl_callK (ι := Gh) (fun i => .tuple #[.agg #[.bool (tickP s3).1.1, .bool (tickP s3).1.2.1, .int .i64 (tickP s3).1.2.2.1, .int .u64 (tickP s3).1.2.2.2.1, .slice i.1 (tickP s3).1.2.2.2.2.length i.2], .int .i64 (tickP s3).2]) (fun i w w' => RowE w' i (tickP s3).1.2.2.2.2) rfl rfl rfl (by decide) En11 rfl (fun w1 hw1 => parseT s3 w1 (hL.below (hw1.toBelow (by simp)))) (fun p3 wa_ w_6 _ Hn_ _ hC_ => ?_)
    have hx_ := Hn_.toBelow (by simp)
    have fb_b5 : Blk w_6 b5 _ _ := Hn_.get (i := 0) rfl
    have hL := hL.below hx_
    have hr := hr.below hx_
    have fb_bz := fb_bz.below hx_
    have fb_b1 := fb_b1.below hx_
    have hE_p1 := hE_p1.below hx_
    have fb_b3 := fb_b3.below hx_
    have hE_p2 := hE_p2.below hx_
    have hB := hB.next hx_
    have hE_p3 := hC_
    refine wl_q (q_move rfl rfl) rfl rfl (by decide) ?_
    refine wl_q (q_extract rfl rfl rfl) rfl rfl (by decide) ?_
    refine wl_q (q_extract rfl rfl rfl) rfl rfl (by decide) ?_
    refine wl_alloc rfl rfl rfl (by decide) Zr25 (fun b7 => ?_)
    refine wl_store (i := 0) rfl rfl rfl rfl rfl rfl Sz25 rfl rfl (by simp) (by simp [Value.oneCell']) (by first | (simp only [List.take_succ_cons, List.take_zero, List.take_nil, List.drop_succ_cons, List.drop_zero, List.drop_nil, List.nil_append, List.cons_append, List.append_nil, List.length_cons, List.length_nil, Nat.reduceAdd, Nat.zero_add]; rfl) | rfl) (by first | (simp only [List.set_cons_zero, List.set_cons_succ]; rfl) | rfl) ?_
    refine wl_q (q_assign rfl rfl) rfl rfl (by decide) ?_
    refine wl_nil ?_
    refine fq_then ?_
    refine wc_seq ?_
    refine wc_region ?_
    refine wl_q (q_move rfl rfl) rfl rfl (by decide) ?_
    refine wl_callK (ι := Gh) (fun i => .tuple #[.agg #[.bool (tickP zs).1.1, .bool (tickP zs).1.2.1, .int .i64 (tickP zs).1.2.2.1, .int .u64 (tickP zs).1.2.2.2.1, .slice i.1 (tickP zs).1.2.2.2.2.length i.2], .int .i64 (tickP zs).2]) (fun i w w' => RowE w' i (tickP zs).1.2.2.2.2) rfl rfl rfl (by decide) En11 rfl (fun w1 hw1 => parseT zs w1 (hL.below (hw1.toBelow (by simp)))) (fun p4 wa_ w_8 _ Hn_ _ hC_ => ?_)
    have hx_ := Hn_.toBelow (by simp)
    have fb_b7 : Blk w_8 b7 _ _ := Hn_.get (i := 0) rfl
    have hL := hL.below hx_
    have hr := hr.below hx_
    have fb_bz := fb_bz.below hx_
    have fb_b1 := fb_b1.below hx_
    have hE_p1 := hE_p1.below hx_
    have fb_b3 := fb_b3.below hx_
    have hE_p2 := hE_p2.below hx_
    have fb_b5 := fb_b5.below hx_
    have hE_p3 := hE_p3.below hx_
    have hB := hB.next hx_
    have hE_p4 := hC_
    refine wl_q (q_move rfl rfl) rfl rfl (by decide) ?_
    refine wl_q (q_extract rfl rfl rfl) rfl rfl (by decide) ?_
    refine wl_q (q_extract rfl rfl rfl) rfl rfl (by decide) ?_
    refine wl_alloc rfl rfl rfl (by decide) Zr25 (fun b9 => ?_)
    refine wl_store (i := 0) rfl rfl rfl rfl rfl rfl Sz25 rfl rfl (by simp) (by simp [Value.oneCell']) (by first | (simp only [List.take_succ_cons, List.take_zero, List.take_nil, List.drop_succ_cons, List.drop_zero, List.drop_nil, List.nil_append, List.cons_append, List.append_nil, List.length_cons, List.length_nil, Nat.reduceAdd, Nat.zero_add]; rfl) | rfl) (by first | (simp only [List.set_cons_zero, List.set_cons_succ]; rfl) | rfl) ?_
    refine wl_q (q_assign rfl rfl) rfl rfl (by decide) ?_
    refine wl_nil ?_
    refine fq_then ?_
    refine wc_seq ?_
    refine wc_region ?_
    refine wl_q (q_move rfl rfl) rfl rfl (by decide) ?_
    refine wl_q (OpQ.to (q_bin rfl rfl rfl rfl) (congrArg Value.bool (show ((tickP s1).2 == 13) = true by rw [tick_long _ (by omega)]; rfl))) rfl rfl (by decide) ?_
    refine wl_q (q_move rfl rfl) rfl rfl (by decide) ?_
    refine wl_want (b := true) (q_move rfl rfl) rfl rfl rfl rfl (by decide) ?_
    refine wl_want (b := true) (OpQ.to (q_bin rfl rfl rfl rfl) (congrArg Value.bool (show ((tickP s2).2 == 11) = true by rw [tick_sp m g hc hb he _ hd2 (by omega)]; rfl))) rfl rfl rfl rfl (by decide) ?_
    refine wl_q (q_pick rfl rfl rfl) rfl rfl (by decide) ?_
    refine wl_q (q_move rfl rfl) rfl rfl (by decide) ?_
    refine wl_want (b := true) (q_move rfl rfl) rfl rfl rfl rfl (by decide) ?_
    refine wl_want (b := true) (OpQ.to (q_bin rfl rfl rfl rfl) (congrArg Value.bool (show ((tickP s3).2 == 11) = true by rw [sp_tick m g (c := c) (b := b) (l := l) _ hd3 (by omega)]; rfl))) rfl rfl rfl rfl (by decide) ?_
    refine wl_q (q_pick rfl rfl rfl) rfl rfl (by decide) ?_
    refine wl_q (q_move rfl rfl) rfl rfl (by decide) ?_
    refine wl_want (b := true) (q_move rfl rfl) rfl rfl rfl rfl (by decide) ?_
    refine wl_want (b := true) (OpQ.to (q_bin rfl rfl rfl rfl) (congrArg Value.bool (show ((tickP zs).2 == 13) = true by rw [tick_long _ (by omega)]; rfl))) rfl rfl rfl rfl (by decide) ?_
    refine wl_q (q_pick rfl rfl rfl) rfl rfl (by decide) ?_
    refine wl_q (q_assign rfl rfl) rfl rfl (by decide) ?_
    refine wl_nil ?_
    refine fq_then ?_
    refine wc_ret ?_
    refine fq_ret1 rfl rfl (fun w1 H => ?_)
    exact ⟨rfl, (by first | exact hB.next (H.toBelow (by simp)) | exact H.toBelow (by simp))⟩
end Go.Proofs.YtglgipggefpoiaaGreatDoor.SF
end
section
namespace Go.Proofs.YtglgipggefpoiaaGreatDoor.Op
open Go.RowKit Go.Proofs.YtglgipggefpoiaaGreatDoorW.PrintWords
open Go.ChangeShapes Go.WideShapes
structure Opens {α : Type} (K : Kd α) (P : Program) (t : TypeId) (ok : α → Prop) : Prop where
  sz : P.cellsOf t = K.sz
  op : ∀ {H : Type} {enc : TypeId × Value → H} {w : World} {base : Nat} {spare : Nat → Bool} {held : Bool} {fuel : Nat} {cs : List Value} {x : DataW H × List MemPlace},
    DataW.trod enc P w base spare held fuel t cs = some x → ∃ a, K.K w a cs ∧ ok a
theorem Opens.int {P : Program} {t : TypeId} (k : IntKind) (ht : P.underlying t = some (.int k)) (hc : P.cellsOf t = 1) : Opens (Kd.int k) P t (fun n => (Lit.int k n).wf = true) :=
  ⟨hc, fun h => by obtain ⟨n, rfl, _, hw⟩ := DataW.trod_int ht h; exact ⟨n, rfl, hw⟩⟩
theorem Opens.bool {P : Program} {t : TypeId} (ht : P.underlying t = some .bool) (hc : P.cellsOf t = 1) : Opens Kd.bool P t (fun _ => True) :=
  ⟨hc, fun h => by obtain ⟨b, rfl, _⟩ := DataW.trod_bool ht h; exact ⟨b, rfl, trivial⟩⟩
theorem Opens.string {P : Program} {t : TypeId} (ht : P.underlying t = some .string) (hc : P.cellsOf t = 1) : Opens Kd.string P t (fun s => s.size ≤ maxLen) :=
  ⟨hc, fun h => by obtain ⟨s, rfl, _, hw⟩ := DataW.trod_string ht h; exact ⟨s, rfl, hw⟩⟩
theorem cells_at {w : World} {base : Nat} {a : Addr} {n : Nat} {cs : List Value} (h : w.cells? base a n = some cs) : cs.length = n ∧ ∀ i u, cs[i]? = some u → w.cell? (a.add i) = some u := by
  obtain ⟨_, hl, hc⟩ := World.cells?_some h
  refine ⟨hl, fun i u hu => ?_⟩
  have hi : i < n := by have := (List.getElem?_eq_some_iff.1 hu).1; omega
  rw [hc i hi, hu]
theorem Opens.slice {α : Type} {K : Kd α} {P : Program} {t e : TypeId} {ok : α → Prop} (ht : P.underlying t = some (.slice e)) (hc : P.cellsOf t = 1) (h : Opens K P e ok) :
    Opens (Kd.slice e K) P t (fun xs => xs.length ≤ maxLen ∧ ∀ x ∈ xs, ok x) := by
  refine ⟨hc, fun {H enc w base spare held fuel cs x} hx => ?_⟩
  rcases DataW.trod_slice ht hx with ⟨rfl, _⟩ | ⟨a, len, cap, elems, rest, n, _, rfl, _, _, hl, hm, hlen, hel, _, _⟩
  · exact ⟨[], ⟨none, 0, rfl, Nat.le_refl _, rfl, by simp, fun h0 => absurd h0 (by simp)⟩, by simp, by simp⟩
  · have each : ∀ i, i < len → ∃ a', ok a' ∧ ∃ cs, cs.length = K.sz ∧ K.K w a' cs ∧ ∀ j u, cs[j]? = some u → w.cell? (a.add (i * K.sz + j)) = some u := by
      intro i hi
      have h1 := hel i hi
      rw [List.getElem?_eq_getElem (by omega), Option.bind_eq_some_iff] at h1
      obtain ⟨cs', hcs, hy⟩ := h1
      obtain ⟨a', hk, ho⟩ := h.op hy
      obtain ⟨hlc, hcell⟩ := cells_at hcs
      refine ⟨a', ho, cs', by rw [hlc, h.sz], hk, fun j u hu => ?_⟩
      have := hcell j u hu
      rwa [h.sz, Addr.add_add] at this
    have pick : ∀ m, m ≤ len → ∃ xs : List α, xs.length = m ∧ (∀ x ∈ xs, ok x) ∧ ∀ i p, xs[i]? = some p → ∃ cs, cs.length = K.sz ∧ K.K w p cs ∧ ∀ j u, cs[j]? = some u → w.cell? (a.add (i * K.sz + j)) = some u := by
      intro m
      induction m with
      | zero => intro _; exact ⟨[], rfl, by simp, by simp⟩
      | succ m ih =>
        intro hm'
        obtain ⟨xs, hxl, hxo, hxc⟩ := ih (by omega)
        obtain ⟨a', ho, hcs⟩ := each m (by omega)
        refine ⟨xs ++ [a'], by simp [hxl], fun y hy => ?_, fun i p hp => ?_⟩
        · rcases List.mem_append.1 hy with hy | hy
          · exact hxo y hy
          · rw [List.mem_singleton.1 hy]; exact ho
        · by_cases hi : i < m
          · rw [List.getElem?_append_left (by omega)] at hp
            exact hxc i p hp
          · have : i = m := by
              have := (List.getElem?_eq_some_iff.1 hp).1
              simp [hxl] at this; omega
            subst this
            rw [List.getElem?_append_right (by omega), hxl] at hp
            simp at hp
            subst hp
            exact hcs
    obtain ⟨xs, hxl, hxo, hxc⟩ := pick len (Nat.le_refl _)
    refine ⟨xs, ⟨some a, cap, by rw [hxl], by omega, rfl, by unfold maxLen at hm; omega, fun _ => ⟨a, rfl, hxc⟩⟩, by omega, hxo⟩
end Go.Proofs.YtglgipggefpoiaaGreatDoor.Op
end
section
namespace Go.Proofs.YtglgipggefpoiaaGreatDoor.PAll
open Go.RowKit Go.Proofs.YtglgipggefpoiaaGreatDoorW.PrintWords Go.Proofs.YtglgipggefpoiaaGreatDoorW.PrintLast Go.Proofs.YtglgipggefpoiaaGreatDoorW.PrintMore
open Go.ChangeShapes Go.WideShapes
set_option linter.unusedVariables false
set_option linter.unusedSimpArgs false
set_option maxRecDepth 100000
theorem i64_wf {x : Int} (h : (Lit.int .i64 x).wf = true) : SF.i64r x := by
  have : -9223372036854775808 ≤ x ∧ x ≤ 9223372036854775807 := by simpa [Lit.wf, IntKind.min, IntKind.max, IntKind.signed, IntKind.bits] using h
  exact this
theorem u64_nat {x : Int} (h : (Lit.int .u64 x).wf = true) : ∃ b : Nat, x = b ∧ b < 18446744073709551616 := by
  have : 0 ≤ x ∧ x ≤ 18446744073709551615 := by simpa [Lit.wf, IntKind.min, IntKind.max, IntKind.signed, IntKind.bits] using h
  exact ⟨x.toNat, by omega, by omega⟩
theorem u16_wf {x : Int} (h : (Lit.int .u16 x).wf = true) : 0 ≤ x ∧ x < 65536 := by
  have : 0 ≤ x ∧ x ≤ 65535 := by simpa [Lit.wf, IntKind.min, IntKind.max, IntKind.signed, IntKind.bits] using h
  omega
theorem opens49 : Op.Opens k49 Tryz.prog 49 (fun e => SF.i64r e.f1 ∧ SF.i64r e.f2) := by
  refine ⟨by kernel_rfl, fun {H enc w base spare held fuel cs x} hx => ?_⟩
  obtain ⟨xs, n, _, _, hl, hlen, hf⟩ := DataW.trod_struct Tryz.underlying49 hx
  have hc3 : Tryz.prog.cellsOf 3 = 1 := by kernel_rfl
  have hc49 : Tryz.prog.cellsOf 49 = 3 := by kernel_rfl
  rw [hc49] at hl
  match cs, hl, xs, hlen with
  | [u, v, y], _, [x0, x1, x2], _ =>
    have f0 : DataW.trod enc Tryz.prog w base spare held n 3 (([u, v, y].drop 0).take (Tryz.prog.cellsOf 3)) = some x0 := hf 0 _ rfl
    have f1 : DataW.trod enc Tryz.prog w base spare held n 3 (([u, v, y].drop 1).take (Tryz.prog.cellsOf 3)) = some x1 := hf 1 _ rfl
    have f2 : DataW.trod enc Tryz.prog w base spare held n 3 (([u, v, y].drop 2).take (Tryz.prog.cellsOf 3)) = some x2 := hf 2 _ rfl
    rw [hc3] at f0 f1 f2
    obtain ⟨a, ea, _, _⟩ := DataW.trod_int Tryz.underlying3 (show DataW.trod enc Tryz.prog w base spare held n 3 [u] = some x0 from f0)
    obtain ⟨b, eb, _, wb⟩ := DataW.trod_int Tryz.underlying3 (show DataW.trod enc Tryz.prog w base spare held n 3 [v] = some x1 from f1)
    obtain ⟨c, ec, _, wc⟩ := DataW.trod_int Tryz.underlying3 (show DataW.trod enc Tryz.prog w base spare held n 3 [y] = some x2 from f2)
    simp only [List.cons.injEq, and_true] at ea eb ec
    subst ea; subst eb; subst ec
    exact ⟨⟨a, b, c⟩, k49_mk w _, i64_wf wb, i64_wf wc⟩
theorem in_open {H : Type} {enc : TypeId × Value → H} {w : World} {base : Nat} {spare : Nat → Bool} {held : Bool} {fuel : Nat} {cs : List Value} {x : DataW H × List MemPlace} (h : DataW.trod enc Tryz.prog w base spare held fuel 25 cs = some x) :
    ∃ (m g : Bool) (c : Int) (b : Nat) (A : Option Addr) (cap : Nat) (l : List S49), cs = [.bool m, .bool g, .int .i64 c, .int .u64 b, .slice A l.length cap] ∧ l.length ≤ cap ∧ Kd.C k49 w A l.length l ∧ SF.i64r c ∧ b < 18446744073709551616 ∧ ∀ e ∈ l, SF.i64r e.f1 ∧ SF.i64r e.f2 := by
  obtain ⟨xs, n, _, _, hl, hlen, hf⟩ := DataW.trod_struct Tryz.underlying25 h
  have hc3 : Tryz.prog.cellsOf 3 = 1 := by kernel_rfl
  have hc4 : Tryz.prog.cellsOf 4 = 1 := by kernel_rfl
  have hc22 : Tryz.prog.cellsOf 22 = 1 := by kernel_rfl
  have hc23 : Tryz.prog.cellsOf 23 = 1 := by kernel_rfl
  have hc25 : Tryz.prog.cellsOf 25 = 5 := by kernel_rfl
  rw [hc25] at hl
  match cs, hl, xs, hlen with
  | [u, v, y, z, q], _, [x0, x1, x2, x3, x4], _ =>
    have f0 : DataW.trod enc Tryz.prog w base spare held n 4 (([u, v, y, z, q].drop 0).take (Tryz.prog.cellsOf 4)) = some x0 := hf 0 _ rfl
    have f1 : DataW.trod enc Tryz.prog w base spare held n 4 (([u, v, y, z, q].drop 1).take (Tryz.prog.cellsOf 4)) = some x1 := hf 1 _ rfl
    have f2 : DataW.trod enc Tryz.prog w base spare held n 3 (([u, v, y, z, q].drop 2).take (Tryz.prog.cellsOf 3)) = some x2 := hf 2 _ rfl
    have f3 : DataW.trod enc Tryz.prog w base spare held n 22 (([u, v, y, z, q].drop 3).take (Tryz.prog.cellsOf 22)) = some x3 := hf 3 _ rfl
    have f4 : DataW.trod enc Tryz.prog w base spare held n 23 (([u, v, y, z, q].drop 4).take (Tryz.prog.cellsOf 23)) = some x4 := hf 4 _ rfl
    rw [hc4] at f0 f1
    rw [hc3] at f2
    rw [hc22] at f3
    rw [hc23] at f4
    obtain ⟨m, ea, _⟩ := DataW.trod_bool Tryz.underlying4 (show DataW.trod enc Tryz.prog w base spare held n 4 [u] = some x0 from f0)
    obtain ⟨g, eb, _⟩ := DataW.trod_bool Tryz.underlying4 (show DataW.trod enc Tryz.prog w base spare held n 4 [v] = some x1 from f1)
    obtain ⟨c, ec, _, wc⟩ := DataW.trod_int Tryz.underlying3 (show DataW.trod enc Tryz.prog w base spare held n 3 [y] = some x2 from f2)
    obtain ⟨d, ed, _, wd⟩ := DataW.trod_int Tryz.underlying22 (show DataW.trod enc Tryz.prog w base spare held n 22 [z] = some x3 from f3)
    simp only [List.cons.injEq, and_true] at ea eb ec ed
    subst ea; subst eb; subst ec; subst ed
    obtain ⟨l, ⟨A, cc, ez, hlc, hC⟩, _, hok⟩ := (Op.Opens.slice (K := k49) Tryz.underlying23 hc23 opens49).op (show DataW.trod enc Tryz.prog w base spare held n 23 [q] = some x4 from f4)
    simp only [List.cons.injEq, and_true] at ez
    subst ez
    obtain ⟨b, rfl, hb⟩ := u64_nat wd
    exact ⟨m, g, c, b, A, cc, l, rfl, hlc, hC, i64_wf wc, hb, hok⟩
end Go.Proofs.YtglgipggefpoiaaGreatDoor.PAll
end
section
namespace Go.Proofs.YtglgipggefpoiaaGreatDoor.SF
open Go.ChangeShapes Go.WideShapes Go.RowKit
set_option maxRecDepth 100000
set_option linter.unusedVariables false
theorem returns_shaped_and {H : Type} {enc : TypeId × Value → H} {a : Assume} {C : Checked} {os : Os} {f : FuncId} {fn : Func} {s : ChangeSpec} {conds : List PathCond} {apart fresh handsOn again : Bool} {X : World → Array Value → Prop}
    (hX : ∀ (w w' : World) (args : Array Value), w.heap = w'.heap → X w args → X w' args)
    (own : ownKnob C.prog.godebug = none) (started : os.Started) (noInit : C.prog.inits.idxOf? f = none) (hfn : C.prog.funcs[f]? = some fn)
    (witness : ∃ (w : World) (tape : Tape) (i : Input), w.os = os ∧ (w.forCall tape i).Shaped C.prog ∧ i.vars = [] ∧ Input.okWide C.prog (w.forCall tape i) .any w.heap.size f i ∧
      ((s.pre enc C.prog fn conds apart (w.forCall tape i).memory i.args ∧ X (w.forCall tape i).memory i.args) ∧ sizedMet enc C.prog fn (OpenSpec.ofChange s) apart (w.forCall tape i).memory i.args) ∧ a.holds C.prog (lone (Frame.enter C.prog f i.args .normal) [] (w.forCall tape i)))
    (contract : ∀ (W : World) (base : Nat) (args : Array Value) (ds gs : List (DataW H)) (before : List MemPlace),
      (∀ (j : Nat) t v, fn.params[j]? = some t → args[j]? = some v → Value.okWide C.prog W .any base t v) →
      DataW.Whole enc C.prog fn.params.toList s.vars apart W args.toList ds gs before →
      conds.all (PathCond.test C.prog ⟨fn.params.toList, ds, s.plain.varTypes C.prog, gs⟩) = true →
      (DataW.weightsEach C.prog (fn.params.toList ++ s.plain.varTypes C.prog) (ds ++ gs)).all (· ≤ reachBytes) = true → W.ShapedOpen C.prog → X W args →
      a.holds C.prog (lone (Frame.enter C.prog f args .normal) [] W) →
      Calls C.prog f args W fun e W' => ∃ v, e = .returned v ∧ s.post enc C.prog fn apart fresh handsOn again W args v W') :
    ReturnsInHanded a C os f .any (fun w args => (s.pre enc C.prog fn conds apart w args ∧ X w args) ∧ sizedMet enc C.prog fn (OpenSpec.ofChange s) apart w args) (s.post enc C.prog fn apart fresh handsOn again) := by
  refine returnsInHanded_of_calls own started noInit witness ?_
  intro w tape i _ hsh _ hok hpre hholds
  obtain ⟨_, _, _, fn', hfn', _, _, _, _, hval⟩ := hok
  obtain rfl : fn' = fn := Option.some.inj (hfn'.symm.trans hfn)
  obtain ⟨⟨⟨ds, gs, before, hw, hc⟩, hx⟩, hz⟩ := hpre
  have hw' := DataW.Whole.of_heap (w' := w.forCall tape i) (by rfl) hw
  refine (contract (w.forCall tape i) w.heap.size i.args ds gs before hval hw' hc (hz.weights hw) hsh (hX _ _ _ (by rfl) hx) hholds).mono fun e W' ⟨v, he, hp⟩ => ?_
  subst he
  exact ChangeSpec.post_blind hp
theorem pow_tab {W : World} (h : Lib.VarReads Tryz.prog W "internal/strconv.uint64pow10" Rows.laid_internal_strconv_uint64pow10) : Lib.TabIs Tryz.prog W "internal/strconv.uint64pow10" .u64 Lib.pow10Tab := by
  obtain ⟨g, t, cs, fuel, p, hg, ht, hv, hd⟩ := h
  obtain rfl := Option.some.inj ((show Tryz.prog.globalNamed "internal/strconv.uint64pow10" = some 1 by kernel_rfl).symm.trans hg)
  obtain rfl := Option.some.inj ((show (Tryz.prog.globals[1]?).map (·.type) = some 163 by kernel_rfl).symm.trans ht)
  have e : (Rows.laid_internal_strconv_uint64pow10 : DataW Unit) = Lib.tabData .u64 Lib.pow10Tab := rfl
  rw [e] at hd
  have := Lib.cells_of_tab Tryz.underlying163 (e := 22) (n := 20) (k := .u64) Tryz.underlying22 (by kernel_rfl) (by kernel_rfl) hd
  unfold Lib.TabIs
  rw [hv, ← this]
theorem err_var {W : World} {n nm : String} {d : DataW Unit} (h : Lib.VarReads Tryz.prog W n (.iface nm d)) {g : Nat} (hg0 : Tryz.prog.globalNamed n = some g) (ht0 : (Tryz.prog.globals[g]?).map (·.type) = some 70) : ∃ tp p, W.var? Tryz.prog n = some #[.iface tp p] := by
  obtain ⟨g, t, cs, fuel, p, hg, ht, hv, hd⟩ := h
  obtain rfl := Option.some.inj (hg0.symm.trans hg)
  obtain rfl := Option.some.inj (ht0.symm.trans ht)
  obtain ⟨f1, u, v, hc, _, _⟩ := iface_of_trod Tryz.underlying70 hd
  refine ⟨u, v, ?_⟩
  rw [hv]
  congr 1
  apply Array.ext'
  exact hc
theorem Lw_of {W : World} (h : laidMetH Tryz.prog Rows.scriptPutsRow.laid W) (hs : W.ShapedOpen Tryz.prog) : Lw W := by
  rw [MakeChecks.laidMetH_plain _ _ _ (by kernel_rfl)] at h
  refine ⟨pow_tab (Lib.laidMet.reads h (.tail _ (.tail _ (.head _)))), err_var (Lib.laidMet.reads h (.tail _ (.tail _ (.tail _ (.tail _ (.tail _ (.tail _ (.head _)))))))) (g := 2) (by kernel_rfl) (by kernel_rfl), err_var (Lib.laidMet.reads h (.tail _ (.tail _ (.tail _ (.tail _ (.tail _ (.head _))))))) (g := 3) (by kernel_rfl) (by kernel_rfl), ?_⟩
  exact cell_of_shapedOpen_int (g := 4) (t := 3) (zero := #[.int .i64 0]) hs (of_decide_eq_true (by kernel_rfl)) (by kernel_rfl) rfl (by kernel_rfl) (by kernel_rfl) Tryz.underlying3
end Go.Proofs.YtglgipggefpoiaaGreatDoor.SF
end
section
namespace Go.Proofs.YtglgipggefpoiaaGreatDoor.scriptLong
open Go.ChangeShapes Go.WideShapes Go.ChangeAt Go.RowKit Go.Proofs.YtglgipggefpoiaaGreatDoorW.PrintWords
open Go.ChangeMaps (open_string shut_string)
set_option linter.unusedVariables false
theorem own : ownKnob Tryz.prog.godebug = none := by kernel_rfl
theorem laidOut : laidOutB Tryz.prog = true := by kernel_rfl
set_option maxRecDepth 100000 in
theorem lifted (os : Os) (started : os.Started) (H : Type) (enc : TypeId × Value → H) :
    ReturnsInHanded {} Tryz.checked os 6 .any (fun w args => (Rows.scriptLongSpec.pre enc Tryz.prog Tryz.f6 [] false w args ∧ laidMetH Tryz.prog Rows.scriptLongRow.laid w) ∧ sizedMet enc Tryz.prog Tryz.f6 (OpenSpec.ofChange Rows.scriptLongSpec) false w args) (Rows.scriptLongSpec.post enc Tryz.prog Tryz.f6 false true false false) := by
  refine SF.returns_shaped_and (C := Tryz.checked) (X := fun w _ => laidMetH Tryz.prog Rows.scriptLongRow.laid w) (fun _ _ _ hh h => h.of_heap hh) own started (by kernel_rfl) Tryz.func6
    (ChangeSpec.witness_shaped (enc := enc) (C := Tryz.checked) (os := os) (X := fun w _ => laidMetH Tryz.prog Rows.scriptLongRow.laid w) false (World.laidAll Tryz.prog os Rows.scriptLongRow.laid) #[.agg #[.bool false, .bool false, .int .i64 0, .int .u64 0, .slice none 0 0], .int .u16 0] 8 (World.laidAll_os _ _ _)
      (World.shaped_of_ZipB (by kernel_rfl) (by kernel_rfl)) (by kernel_rfl) (by kernel_rfl) (by kernel_rfl)
      (by rw [MakeChecks.laidMetH_plain _ _ _ (by kernel_rfl)]; exact laidMet_laidAll _ (by kernel_rfl) (by kernel_rfl))) ?_
  intro W base args ds gs before hval0 hW _ hsz0 hsh hL _
  have hhalf := SF.Lw_of hL hsh
  have hsz : (DataW.weightsEach Tryz.prog (Tryz.f6.params.toList ++ Rows.scriptLongSpec.plain.varTypes Tryz.prog) (ds ++ gs)).all (· ≤ reachBytes) = true := hsz0
  have hval : ∀ (j : Nat) t v, Tryz.f6.params[j]? = some t → args[j]? = some v → Value.okWide Tryz.prog W .any base t v := hval0
  have hW' := hW
  obtain ⟨p, q, hA0, hV, rfl, hfz, hnd⟩ := hW
  have hA : DataW.TrodAll enc Tryz.prog W 0 (fun _ => true) true Tryz.f6.params.toList args.toList ds p := hA0
  rw [Tryz.params6] at hA hval hsz
  obtain ⟨v0, vs0, d0, ds0, p0, q0, hargs, rfl, rfl, h0, r0⟩ := trodAll_cons hA
  obtain ⟨v1, vs1, d1, ds1, p1, q1, rfl, rfl, rfl, h1, r1⟩ := trodAll_cons r0
  obtain ⟨rfl, rfl, rfl⟩ := trodAll_nil r1
  obtain rfl : args = #[v0, v1] := by cases args; simp_all
  obtain ⟨rfl, rfl⟩ := trodVars_none hV
  obtain ⟨cs0, rfl, hz0⟩ := okWide_struct Tryz.underlying25 (hval 0 25 v0 rfl rfl)
  have k0 := h0
  have lt0 : ∀ x ∈ p0, x.block < W.heap.size := by obtain ⟨m, hm⟩ := k0; exact DataW.trod_lt m _ _ _ hm
  obtain ⟨fu0, hf0⟩ := h0
  obtain ⟨m0, g0, cc0, bb0, A0, c0, l0, e0, hc0, hr0, hw0, hb0, he0⟩ := PAll.in_open hf0
  obtain rfl : cs0 = #[.bool m0, .bool g0, .int .i64 cc0, .int .u64 bb0, .slice A0 l0.length c0] := by simpa [Value.cells, ← Array.toList_inj] using e0
  obtain ⟨a1, rfl, rfl, rfl, w1⟩ := open_int Tryz.underlying36 (hval 1 36 v1 rfl rfl) h1
  clear hA0 hval0 hsz0
  obtain ⟨k, hk⟩ := (⟨0, trivial⟩ : ∃ k : Nat, True)
  refine (SF.long_law m0 g0 cc0 bb0 (A0, c0) l0 W ⟨hc0, hr0⟩ hw0 hb0 he0 hhalf a1 (PAll.u16_wf w1)).mono fun e W' ⟨he, bel⟩ => ?_
  subst he
  exact ⟨_, rfl, _, _, _, [], _, [], hW', trodAll_mk1 (shut_bool Tryz.underlying4 _), (trodAll_cons_mk (Below.trod laidOut (by kernel_rfl) (of_decide_eq_true (by kernel_rfl)) k0 bel lt0) (trodAll_cons_mk (shut_int Tryz.underlying36 w1) trodAll_mk0)), rfl, bel.frame _, fun h => by cases h⟩
theorem over : Rows.scriptLongRow.holds Tryz.pinned (OpenSpec.ofChange Rows.scriptLongSpec) :=
  OpenClaim.holds_of_wide 6 Tryz.f6 rfl rfl rfl rfl rfl rfl rfl ⟨rfl, rfl, rfl, rfl, rfl⟩ rfl rfl rfl rfl rfl (by kernel_rfl) Tryz.func6 (by kernel_rfl)
    (of_decide_eq_true (by kernel_rfl)) (by unfold Func.isWrapper; first | (rw [if_pos (by decide +kernel)]; kernel_rfl) | (rw [if_neg (by decide +kernel)]; exact ⟨rfl, rfl⟩))
    (fun os started H enc _ => lifted os started H enc)
theorem proved : Rows.ScriptLongSaid := over
theorem row_tie : Rows.scriptLongRow.laidByTextAt .later Tryz.pinned [.data, .data, .data, .data, .data, .sentinel, .sentinel, .pinned] true := scriptLong_row_tie
theorem card : Rows.ScriptLongCardSaid :=
  Claim7.holds_tied_plain_at .later [] [.data, .data, .data, .data, .data, .sentinel, .sentinel, .pinned] true (true, "e076c508fcb96590fc3f15b846c8372e96745594347af2c941e57ce05269dd9f") true
    proved (fun _ h => by cases h) (by kernel_rfl) (fun _ h => by cases h) row_tie rfl ⟨rfl, rfl⟩ (by kernel_rfl) rfl
    (fun f fn hf hfn => by
      obtain rfl : f = 6 := Option.some.inj ((show Tryz.prog.funcNamed "paternoster/paternosterlaw24.ScriptLong" = some 6 by kernel_rfl).symm.trans hf) |>.symm
      obtain rfl : fn = Tryz.f6 := (Option.some.inj (Tryz.func6.symm.trans hfn)).symm
      exact ⟨by kernel_rfl, fun j t ht => by
        rw [Tryz.params6] at ht
        have ht' : t ∈ #[25, 36] := Array.mem_of_getElem? ht
        simp only [List.mem_toArray, List.mem_cons, List.not_mem_nil, or_false] at ht'
        rcases ht' with rfl | rfl
        · exact (show Tryz.prog.wantsStandIn 25 = false by kernel_rfl)
        · exact (show Tryz.prog.wantsStandIn 36 = false by kernel_rfl)⟩)
    (by kernel_rfl)
#print axioms card
end Go.Proofs.YtglgipggefpoiaaGreatDoor.scriptLong
namespace Go.Proofs.YtglgipggefpoiaaGreatDoor
theorem scriptLong_holds : Rows.ScriptLongCardSaid := scriptLong.card
end Go.Proofs.YtglgipggefpoiaaGreatDoor
end
