/- The walk of the law CrcXors, by hand (no statement stands here). -/
import Derived.Test.YtmegcockgohkhaaDoorCrcOfW
import Derived.Deep.LoopGhost
namespace Go.Proofs.YtmegcockgohkhaaDoor.PAll
open Go.RowKit Go.Proofs.YtmegcockgohkhaaDoorW.PrintWords Go.Proofs.YtmegcockgohkhaaDoorW.PrintLast Go.Proofs.YtmegcockgohkhaaDoorW.PrintMore
attribute [local go_sem] min_two
set_option linter.unusedVariables false
set_option linter.unusedSimpArgs false

theorem min_is {x y m : Int} (h : (if y < x then y else x) = m) : Builtin.min2 (.int .i64 x) (.int .i64 y) = pure (.int .i64 m) := by rw [min2_int, h]
def xor3 (a b c : Int) : Int := Go.bits .xor .u8 (Go.bits .xor .u8 a b) c
def xrow (a b c : List Int) (n : Nat) : List Int := (List.range n).map fun i : Nat => xor3 (rd a (i : Int)) (rd b (i : Int)) (rd c (i : Int))
def xst (a b c : List Int) (n i : Nat) : List Int := xrow a b c i ++ List.replicate (n - i) 0
theorem xst_zero (a b c : List Int) (n : Nat) : xst a b c n 0 = List.replicate n 0 := by simp [xst, xrow]
theorem xst_len (a b c : List Int) (n i : Nat) (h : i ≤ n) : (xst a b c n i).length = n := by simp [xst, xrow]; omega
theorem xst_end (a b c : List Int) (n : Nat) : xst a b c n n = xrow a b c n := by simp [xst]
theorem xst_step (a b c : List Int) (n i : Nat) (h : i < n) : (xst a b c n i).set i (xor3 (rd a (i : Int)) (rd b (i : Int)) (rd c (i : Int))) = xst a b c n (i + 1) := by
  unfold xst
  rw [List.set_append_right _ _ (by simp [xrow])]
  have e : i - (xrow a b c i).length = 0 := by simp [xrow]
  rw [e]
  obtain ⟨m, hm⟩ : ∃ m, n - i = m + 1 := ⟨n - i - 1, by omega⟩
  rw [hm, List.replicate_succ, List.set_cons_zero, show n - (i + 1) = m by omega]
  simp [xrow, List.range_succ]

set_option maxRecDepth 100000 in
set_option maxHeartbeats 4000000 in
theorem CrcXors_long (A0 A1 A2 : Option Addr) (c0 c1 c2 : Nat) (l0 l1 l2 : List Int) (m n : Nat) (w : World) (hl_ : Half w) (hm1 : (if (l1.length : Int) < (l0.length : Int) then (l1.length : Int) else (l0.length : Int)) = (m : Int)) (hm2 : (if (l2.length : Int) < (m : Int) then (l2.length : Int) else (m : Int)) = (n : Int)) (hn : 600 < n) :
    Calls Tryd.prog 6 #[.slice A0 l0.length c0, .slice A1 l1.length c1, .slice A2 l2.length c2] w fun e w' => e = .returned (.bool true) ∧ Below w.heap.size w w' := by
  replace hm1 := min_is hm1
  replace hm2 := min_is hm2
  have hd : decide (600 < n) = true := decide_eq_true hn
  have hd2 : decide ((600 : Int) < (n : Int)) = true := decide_eq_true (by omega)
  clear hn
  go_enter Tryd.func6, Tryd.ntmps6
  go_wp2_with (first | (go_at_call 9; refine (paternosterlaw02_awake.calls true _ rfl hl_).mono ?_; rintro e w1 ⟨rfl, hb1⟩))
  go_ret
  exact ⟨rfl, hb1⟩

theorem cell_all {w : World} {A : Option Addr} {l : List Int} {n : Nat} (h : (Kd.int .u8).C w A n l) (i : Nat) (hi : i < n) : ∃ ad, A = some ad ∧ ∀ W, Below w.heap.size w W → W.cell? (ad.add i) = some (.int .u8 (rd l (i : Int))) := by
  obtain ⟨ad, e, hx⟩ := Kd.at_int h (i : Int) (by omega) (by omega)
  rw [Int.toNat_natCast] at hx
  exact ⟨ad, e, fun W hb => (hb.cell (World.block_lt_of_cell? w _ hx)).trans hx⟩

theorem hp_alloc (W : World) (o : Obj) (N : Nat) : (W.alloc o).heap[N]? = if N = W.heap.size then some o else W.heap[N]? := by
  unfold World.alloc
  exact Array.getElem?_push
theorem hp_drewN (W : World) (m : Nat) : (W.drewN m).heap = W.heap := rfl
theorem hp_drew (W : World) : W.drew.heap = W.heap := rfl
theorem hs_drewN (W : World) (m : Nat) : (W.drewN m).heap.size = W.heap.size := rfl
theorem hs_drew (W : World) : W.drew.heap.size = W.heap.size := rfl
theorem C_row_at (W : World) (N : Nat) (A : Option Addr) (i c : Nat) (l : List Int) (hN : W.heap[N]? = some (.cells #[.slice A i c] 22 (0, 0))) (hl : l.length = i) (hc : i ≤ c) (h : (Kd.int .u8).C W A i l) : Kd.C (Kd.slice 5 (Kd.int .u8)) W (some ⟨N, 0, none⟩) 1 [l] := by
  subst hl
  refine ⟨rfl, by decide, fun _ => ⟨_, rfl, fun j p hp => ?_⟩⟩
  rcases j with _ | j
  · simp only [List.getElem?_cons_zero, Option.some.injEq] at hp
    subst hp
    refine ⟨[.slice A l.length c], rfl, ⟨A, c, rfl, hc, h⟩, fun i u hu => ?_⟩
    rcases i with _ | i
    · simp only [List.getElem?_cons_zero, Option.some.injEq] at hu
      subst hu
      rw [WideShapes.add_plain]; unfold World.cell?; rw [hN]; rfl
    · simp at hu
  · simp at hp

set_option maxRecDepth 100000 in
set_option maxHeartbeats 100000000 in
theorem CrcXors_short (A0 A1 A2 : Option Addr) (c0 c1 c2 : Nat) (l0 l1 l2 : List Int) (m n : Nat) (vd va vb vc : Int) (w : World) (hr0 : Kd.C (Kd.int .u8) w A0 l0.length l0) (hc0 : l0.length ≤ c0) (hr1 : Kd.C (Kd.int .u8) w A1 l1.length l1) (hc1 : l1.length ≤ c1) (hr2 : Kd.C (Kd.int .u8) w A2 l2.length l2) (hc2 : l2.length ≤ c2) (hl_ : Half w)
    (hm1 : (if (l1.length : Int) < (l0.length : Int) then (l1.length : Int) else (l0.length : Int)) = (m : Int)) (hm2 : (if (l2.length : Int) < (m : Int) then (l2.length : Int) else (m : Int)) = (n : Int)) (hn : n ≤ 600)
    (hod : crc_Of.f [xrow l0 l1 l2 n] = some vd) (hoa : crc_Of.f [l0.take n] = some va) (hob : crc_Of.f [l1.take n] = some vb) (hoc : crc_Of.f [l2.take n] = some vc) (hv : vd = Go.bits .xor .u32 (Go.bits .xor .u32 va vb) vc) :
    Calls Tryd.prog 6 #[.slice A0 l0.length c0, .slice A1 l1.length c1, .slice A2 l2.length c2] w fun e w' => e = .returned (.bool true) ∧ Below w.heap.size w w' := by
  have HN0 := Aside0.mk (show n ≤ l0.length by split at hm1 <;> split at hm2 <;> omega)
  have HN1 := Aside0.mk (show n ≤ l1.length by split at hm1 <;> split at hm2 <;> omega)
  have HN2 := Aside0.mk (show n ≤ l2.length by split at hm1 <;> split at hm2 <;> omega)
  replace hm1 := min_is hm1
  replace hm2 := min_is hm2
  have hd : decide (600 < n) = false := decide_eq_false (by omega)
  have hd2 : decide ((600 : Int) < (n : Int)) = false := decide_eq_false (by omega)
  have hmk := print_make (P := Tryd.prog) 22 5 .u8 1 Tryd.underlying22 info5 (by decide) n (by omega)
  have HN := Aside0.mk hn
  have HR0 := Aside0.mk hr0
  have HR1 := Aside0.mk hr1
  have HR2 := Aside0.mk hr2
  have HL := Aside0.mk hl_
  have HO := Aside0.mk (And.intro hod (And.intro hoa (And.intro hob hoc)))
  have HV := Aside0.mk hv
  clear hn hr0 hr1 hr2 hl_ hod hoa hob hoc hv
  go_enter Tryd.func6, Tryd.ntmps6
  go_wp2_with (first | (go_at_call 9; refine (paternosterlaw02_awake.calls true _ rfl HL.out).mono ?_; rintro e w1 ⟨rfl, hb1⟩; have HB := Aside0.mk hb1; clear hb1))
  clear hd hd2 hm1 hm2 hmk
  have hown0 : (w1.alloc (.cells (madeCells #[.int .u8 0] n) 5)).ownsRow w1.heap.size 5 1 (.slice (some ⟨w1.heap.size, 0, none⟩) n n) n (nums .u8 (xst l0 l1 l2 n 0)) := by
    rw [xst_zero]; exact own_made w1 _ 5 .u8 n (Nat.le_refl _) (by have := HN.out; omega)
  have HOWN := Aside0.mk hown0
  have hbA : Below w.heap.size w (w1.alloc (.cells (madeCells #[.int .u8 0] n) 5)) := below_alloc HB.out _
  have HBA := Aside0.mk hbA
  have HSZ := Aside0.mk (below_size HB.out)
  clear hown0 hbA
  go_loopg [10] n (fun g v10 w' => ∃ i : Nat, v10 = .int .i64 i ∧ Aside0 (g + i = n) ∧ Aside0 (w'.ownsRow w1.heap.size 5 1 (.slice (some ⟨w1.heap.size, 0, none⟩) n n) n (nums .u8 (xst l0 l1 l2 n i))) ∧ Aside0 (Below w.heap.size w w'))
  case atStart => exact ⟨0, rfl, ⟨by omega⟩, HOWN, HBA⟩
  case round =>
    clear HOWN HBA
    obtain ⟨i, rfl, HI, HOW, HBW⟩ := hrel
    cases gk with
    | zero =>
      have hlt : decide ((i : Int) < (n : Int)) = false := decide_eq_false (by have := HI.out; omega)
      have hi : i = n := by have := HI.out; omega
      subst hi
      rw [xst_end] at HOW
      obtain ⟨i0, hi0, _, hsz, _⟩ := info_parts info5
      have hct0 := (print_take_of (P := Tryd.prog) (Value.int .u8) 0 22 5 .i64 Tryd.underlying22 hi0 hsz A0 c0 l0 (i : Int) (by omega) (by have := HN0.out; omega) hc0).1
      have hct1 := (print_take_of (P := Tryd.prog) (Value.int .u8) 0 22 5 .i64 Tryd.underlying22 hi0 hsz A1 c1 l1 (i : Int) (by omega) (by have := HN1.out; omega) hc1).1
      have hct2 := (print_take_of (P := Tryd.prog) (Value.int .u8) 0 22 5 .i64 Tryd.underlying22 hi0 hsz A2 c2 l2 (i : Int) (by omega) (by have := HN2.out; omega) hc2).1
      have et : ∀ l : List Int, i ≤ l.length → (l.take (i : Int).toNat).length = i := fun l h => by rw [Int.toNat_natCast, List.length_take]; omega
      rw [et _ HN0.out] at hct0
      rw [et _ HN1.out] at hct1
      rw [et _ HN2.out] at hct2
      clear et
      have hCt : ∀ (W : World) (A : Option Addr) (l : List Int), (Kd.int .u8).C w A l.length l → i ≤ l.length → Below w.heap.size w W → (Kd.int .u8).C W A i (l.take i) := fun W A l h hi hb => by
        have := Kd.C_take (Kd.C_below h hb) hi
        rwa [show (l.take i).length = i by rw [List.length_take]; omega] at this
      have hCd : (Kd.int .u8).C wr (some ⟨w1.heap.size, 0, none⟩) i (xrow l0 l1 l2 i) := Kd.C_of_reads (enc := Value.int .u8) (d := (0 : Int)) (h1 := fun _ => rfl) (own_reads' HOW.out)
      have hrow : ∀ (W : World) (N : Nat) (A : Option Addr) (c : Nat) (l : List Int) (v : Int), W.heap[N]? = some (.cells #[.slice A i c] 22 (0, 0)) → l.length = i → i ≤ c → (Kd.int .u8).C W A i l → crc_Of.f [l] = some v → Below wr.heap.size wr W → Calls Tryd.prog 11 #[.slice (some ⟨N, 0, none⟩) 1 1] W fun e w' => e = .returned (.int .u32 v) ∧ Drawn0 W w' := fun W N A c l v hN hl hc h hf hb =>
        crc_Of.calls _ 1 [l] v _ (C_row_at W N A i c l hN hl hc h) (by simp) hf (Half.keep HL.out (below_step HBW.out hb))
      have hrd : ∀ (W : World) (N : Nat), W.heap[N]? = some (.cells #[.slice (some ⟨w1.heap.size, 0, none⟩) i i] 22 (0, 0)) → Below wr.heap.size wr W → Calls Tryd.prog 11 #[.slice (some ⟨N, 0, none⟩) 1 1] W fun e w' => e = .returned (.int .u32 vd) ∧ Drawn0 W w' := fun W N hN hb =>
        hrow W N _ _ (xrow l0 l1 l2 i) _ hN (by simp [xrow]) (Nat.le_refl _) (Kd.C_below hCd hb) HO.out.1 hb
      have hra : ∀ (W : World) (N : Nat), W.heap[N]? = some (.cells #[.slice A0 i c0] 22 (0, 0)) → Below wr.heap.size wr W → Calls Tryd.prog 11 #[.slice (some ⟨N, 0, none⟩) 1 1] W fun e w' => e = .returned (.int .u32 va) ∧ Drawn0 W w' := fun W N hN hb =>
        hrow W N _ _ (l0.take i) _ hN (by rw [List.length_take]; have := HN0.out; omega) (by have := HN0.out; omega) (hCt W A0 l0 HR0.out HN0.out (below_step HBW.out hb)) HO.out.2.1 hb
      have hrb : ∀ (W : World) (N : Nat), W.heap[N]? = some (.cells #[.slice A1 i c1] 22 (0, 0)) → Below wr.heap.size wr W → Calls Tryd.prog 11 #[.slice (some ⟨N, 0, none⟩) 1 1] W fun e w' => e = .returned (.int .u32 vb) ∧ Drawn0 W w' := fun W N hN hb =>
        hrow W N _ _ (l1.take i) _ hN (by rw [List.length_take]; have := HN1.out; omega) (by have := HN1.out; omega) (hCt W A1 l1 HR1.out HN1.out (below_step HBW.out hb)) HO.out.2.2.1 hb
      have hrc : ∀ (W : World) (N : Nat), W.heap[N]? = some (.cells #[.slice A2 i c2] 22 (0, 0)) → Below wr.heap.size wr W → Calls Tryd.prog 11 #[.slice (some ⟨N, 0, none⟩) 1 1] W fun e w' => e = .returned (.int .u32 vc) ∧ Drawn0 W w' := fun W N hN hb =>
        hrow W N _ _ (l2.take i) _ hN (by rw [List.length_take]; have := HN2.out; omega) (by have := HN2.out; omega) (hCt W A2 l2 HR2.out HN2.out (below_step HBW.out hb)) HO.out.2.2.2 hb
      have HRD := Aside0.mk hrd
      have HRA := Aside0.mk hra
      have HRB := Aside0.mk hrb
      have HRC := Aside0.mk hrc
      have hv2 := HV.out
      have hvD : (vd = Go.bits .xor .u32 (Go.bits .xor .u32 va vb) vc) = True := eq_true hv2
      clear hrd hra hrb hrc hrow hCt hCd HOW hv2
      try clear HV
      clear HR0 HR1 HR2 HL HO HN
      go_wp2
      go_region_held (fun w' => Below wr.heap.size wr w') (repeat (first | assumption | exact Below.refl _ _ | apply below_drew1 | apply below_alloc | apply pw_below_drewN)) (first
        | (go_at_call 11; (have hq_ := hq3); refine (HRC.out _ _ ?_ ?_).mono ?_; (· simp only [hp_alloc, hp_drewN, hp_drew, World.size_alloc, hs_drewN, hs_drew]; repeat (first | done | rw [if_pos trivial] | rw [if_neg (by omega)] | rw [if_pos (by omega)])); (· repeat (first | assumption | exact Below.refl _ _ | apply below_drew1 | apply below_alloc | apply pw_below_drewN)); rintro e w4 ⟨rfl, ⟨m4, rfl⟩⟩)
        | (go_at_call 11; (have hq_ := hq2); refine (HRB.out _ _ ?_ ?_).mono ?_; (· simp only [hp_alloc, hp_drewN, hp_drew, World.size_alloc, hs_drewN, hs_drew]; repeat (first | done | rw [if_pos trivial] | rw [if_neg (by omega)] | rw [if_pos (by omega)])); (· repeat (first | assumption | exact Below.refl _ _ | apply below_drew1 | apply below_alloc | apply pw_below_drewN)); rintro e w4 ⟨rfl, ⟨m4, rfl⟩⟩; have hq3 := Aside0.mk True.intro)
        | (go_at_call 11; (have hq_ := hq1); refine (HRA.out _ _ ?_ ?_).mono ?_; (· simp only [hp_alloc, hp_drewN, hp_drew, World.size_alloc, hs_drewN, hs_drew]; repeat (first | done | rw [if_pos trivial] | rw [if_neg (by omega)] | rw [if_pos (by omega)])); (· repeat (first | assumption | exact Below.refl _ _ | apply below_drew1 | apply below_alloc | apply pw_below_drewN)); rintro e w4 ⟨rfl, ⟨m4, rfl⟩⟩; have hq2 := Aside0.mk True.intro)
        | (go_at_call 11; refine (HRD.out _ _ ?_ ?_).mono ?_; (· simp only [hp_alloc, hp_drewN, hp_drew, World.size_alloc, hs_drewN, hs_drew]; repeat (first | done | rw [if_pos trivial] | rw [if_neg (by omega)] | rw [if_pos (by omega)])); (· repeat (first | assumption | exact Below.refl _ _ | apply below_drew1 | apply below_alloc | apply pw_below_drewN)); rintro e w4 ⟨rfl, ⟨m4, rfl⟩⟩; have hq1 := Aside0.mk True.intro))
      all_goals go_wp2
      all_goals go_ret
      all_goals exact ⟨rfl, below_step HBW.out (by repeat (first | assumption | exact Below.refl _ _ | apply below_drew1 | apply below_alloc | apply pw_below_drewN))⟩
    | succ gko =>
      have hilt : i < n := by have := HI.out; omega
      have hlt : decide ((i : Int) < (n : Int)) = true := decide_eq_true (by omega)
      obtain ⟨ad0, rfl, hx0⟩ := cell_all HR0.out i (by have := HN0.out; omega)
      obtain ⟨ad1, rfl, hx1⟩ := cell_all HR1.out i (by have := HN1.out; omega)
      obtain ⟨ad2, rfl, hx2⟩ := cell_all HR2.out i (by have := HN2.out; omega)
      have p1 : ((0 : Int) ≤ (i : Int)) = True := eq_true (by omega)
      have q0 : ((i : Int) < (l0.length : Int)) = True := eq_true (by have := HN0.out; omega)
      have q1 : ((i : Int) < (l1.length : Int)) = True := eq_true (by have := HN1.out; omega)
      have q2 : ((i : Int) < (l2.length : Int)) = True := eq_true (by have := HN2.out; omega)
      have q3 : ((i : Int) < (n : Int)) = True := eq_true (by omega)
      obtain ⟨hcd, hfd⟩ := own_at (own_drew HOW.out) (i : Int) (by omega) (by omega)
      rw [Int.toNat_natCast] at hcd hfd
      have HLT := Aside0.mk hilt
      have hst := (own_store (own_drew HOW.out) (i : Int) (xor3 (rd l0 (i : Int)) (rd l1 (i : Int)) (rd l2 (i : Int)))).1
      rw [Int.toNat_natCast, xst_step _ _ _ _ _ hilt] at hst
      have HST := Aside0.mk hst
      clear hilt hst
      go_wp2
      go_region_held (fun w' => Below w.heap.size w w') (first | assumption | exact below_drew HBW.out | exact below_set (by assumption) HSZ.out) (fail)
      all_goals go_wp2
      all_goals go_roundg gko
      case measure => omega
      case rel => exact ⟨i + 1, by rw [crc_wrap i (by have := HN.out; have := HLT.out; omega)], ⟨by have := HI.out; omega⟩, HST, ⟨below_set (below_drew HBW.out) HSZ.out⟩⟩
end Go.Proofs.YtmegcockgohkhaaDoor.PAll
