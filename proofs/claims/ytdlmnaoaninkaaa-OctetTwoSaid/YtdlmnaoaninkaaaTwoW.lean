/- The walk of the law OctetTwo, by hand (no statement stands here). -/
import Derived.Test.YtdlmnaoaninkaaaPAllx8
import Derived.Test.YtdlmnaoaninkaaaPAllx7
import Derived.Deep.RegionHeld
import Derived.Deep.LoopGhost
namespace Go.Proofs.Ytdlmnaoaninkaaa.PAll
open Go.RowKit Go.Proofs.YtdlmnaoaninkaaaW.PrintWords Go.Proofs.YtdlmnaoaninkaaaW.PrintLast Go.Proofs.YtdlmnaoaninkaaaW.PrintMore
set_option linter.unusedVariables false
set_option linter.unusedSimpArgs false

theorem two_info : (Try.prog.info? 26).map (fun i => (i.zero, i.size, i.bytes)) = some (some (.slice none 0 0), 1, 24) := by kernel_rfl
def twoR (xs : List (List Int)) (i : Int) : (List Int) := xs.getD i.toNat ([] : List Int)
theorem two_at {w : World} {A : Option Addr} {n : Nat} {xs : List (List Int)} (h : Kd.C (Kd.slice 5 (Kd.int .u8)) w A n xs) (i : Nat) (h1 : i < n) : ∃ ad A0 c0, A = some ad ∧ w.cell? (ad.add i) = some (.slice A0 (twoR xs (i : Int)).length c0) ∧ (twoR xs (i : Int)).length ≤ c0 ∧ (Kd.int .u8).C w A0 (twoR xs (i : Int)).length (twoR xs (i : Int)) := by
  obtain ⟨ad, c, e, _, hK, hc0⟩ := Kd.C_get h ([] : List Int) (i : Int) (by omega) (by omega)
  have hc : ∀ j u, c[j]? = some u → w.cell? (ad.add ((i : Int).toNat * 1 + j)) = some u := hc0
  obtain ⟨A0, c0, rfl, l0, g0⟩ := hK
  exact ⟨ad, A0, c0, e, by have hq := hc 0 _ rfl; rwa [Nat.mul_one, Nat.add_zero, Int.toNat_natCast] at hq, l0, g0⟩
theorem twoR_nat (l : List (List Int)) (i : Nat) (h : i < l.length) : twoR l (i : Int) = l[i] := by
  unfold twoR
  rw [Int.toNat_natCast, List.getD_eq_getElem?_getD, List.getElem?_eq_getElem h, Option.getD_some]
theorem two_take (l : List (List Int)) (i : Nat) (h : i < l.length) : l.take (i + 1) = l.take i ++ [twoR l (i : Int)] := by
  rw [twoR_nat l i h, List.take_add_one, List.getElem?_eq_getElem h]; rfl
def nsum : List (List Int) → Int
  | [] => 0
  | r :: rs => ((r.length : Int) + 2) + nsum rs
theorem nsum_append (a b : List (List Int)) : nsum (a ++ b) = nsum a + nsum b := by
  induction a with
  | nil => simp [nsum]
  | cons x xs ih => simp only [List.cons_append, nsum, ih]; omega
theorem nsum_bound (l : List (List Int)) (h : ∀ r ∈ l, r.length ≤ 140737488355328) : 0 ≤ nsum l ∧ nsum l ≤ 140737488355330 * l.length := by
  induction l with
  | nil => simp [nsum]
  | cons x xs ih =>
    obtain ⟨h1, h2⟩ := ih (fun r hr => h r (List.mem_cons_of_mem _ hr))
    have h3 := h x (List.mem_cons_self ..)
    simp only [nsum, List.length_cons]
    omega
theorem nsum_step (pre : List (List Int)) (r : List Int) (h : ∀ r ∈ pre, r.length ≤ 140737488355328) (hr : r.length ≤ 140737488355328) (hn : pre.length ≤ 40) : wrap64 (nsum pre + wrap64 ((r.length : Int) + 2)) = nsum (pre ++ [r]) := by
  obtain ⟨h1, h2⟩ := nsum_bound pre h
  rw [nsum_append]
  simp only [nsum]
  unfold wrap64
  omega
theorem two_wrap (n : Nat) (h : n ≤ 1099511627776) : wrap64 ((n : Int) + 1) = ((n + 1 : Nat) : Int) := by unfold wrap64; omega

set_option maxRecDepth 100000 in
set_option maxHeartbeats 4000000 in
theorem OctetTwo_long (A0 A1 : Option Addr) (c0 c1 : Nat) (l0 l1 : List (List Int)) (w : World) (hn : 20 < l0.length ∨ 20 < l1.length) :
    Calls Try.prog 10 #[.slice A0 l0.length c0, .slice A1 l1.length c1] w fun e w' => e = .returned (.bool true) ∧ Below w.heap.size w w' := by
  by_cases h0 : 20 < l0.length
  · have hd : decide (20 < l0.length) = true := decide_eq_true h0
    have hd2 : decide ((20 : Int) < (l0.length : Int)) = true := decide_eq_true (by omega)
    clear hn h0
    go_enter Try.func10, Try.ntmps10
    go_wp2_with (first | (go_at_call 12; refine (paternosterlaw01_awake.calls true _ rfl).mono ?_; rintro e w1 ⟨rfl, hb1⟩))
    go_ret
    exact ⟨rfl, hb1⟩
  · have h1 : 20 < l1.length := by omega
    have hd : decide (20 < l0.length) = false := decide_eq_false h0
    have hd2 : decide ((20 : Int) < (l0.length : Int)) = false := decide_eq_false (by omega)
    have hd3 : decide (20 < l1.length) = true := decide_eq_true h1
    have hd4 : decide ((20 : Int) < (l1.length : Int)) = true := decide_eq_true (by omega)
    clear hn h0 h1
    go_enter Try.func10, Try.ntmps10
    go_wp2_with (first | (go_at_call 12; refine (paternosterlaw01_awake.calls true _ rfl).mono ?_; rintro e w1 ⟨rfl, hb1⟩))
    go_ret
    exact ⟨rfl, hb1⟩

set_option maxRecDepth 100000 in
set_option maxHeartbeats 8000000 in
theorem OctetTwo_short (k : Nat) (A0 A1 : Option Addr) (c0 c1 : Nat) (l0 l1 : List (List Int)) (J Ja Jb : List Int) (w : World) (hr0 : Kd.C (Kd.slice 5 (Kd.int .u8)) w A0 l0.length l0) (hc0 : l0.length ≤ c0) (hr1 : Kd.C (Kd.slice 5 (Kd.int .u8)) w A1 l1.length l1) (hc1 : l1.length ≤ c1) (hn0 : l0.length ≤ 20) (hn1 : l1.length ≤ 20)
    (hz0 : ∀ r ∈ l0, r.length ≤ 140737488355328) (hz1 : ∀ r ∈ l1, r.length ≤ 140737488355328)
    (hj : nsum (l0 ++ l1) ≤ 60000 → octet_Join.f k (l0 ++ l1) = some J ∧ octet_Join.f k l0 = some Ja ∧ octet_Join.f k l1 = some Jb ∧ strOfNums Ja ++ strOfNums Jb = strOfNums J ∧ (J.length : Int) = nsum (l0 ++ l1) ∧ Ja.length + Jb.length ≤ 1000000) :
    Calls Try.prog 10 #[.slice A0 l0.length c0, .slice A1 l1.length c1] w fun e w' => e = .returned (.bool true) ∧ Below w.heap.size w w' := by
  have hd : decide (20 < l0.length) = false := decide_eq_false (by omega)
  have hd2 : decide ((20 : Int) < (l0.length : Int)) = false := decide_eq_false (by omega)
  have hd3 : decide (20 < l1.length) = false := decide_eq_false (by omega)
  have hd4 : decide ((20 : Int) < (l1.length : Int)) = false := decide_eq_false (by omega)
  have HR0 := Aside0.mk hr0
  have HR1 := Aside0.mk hr1
  have HN0 := Aside0.mk hn0
  have HN1 := Aside0.mk hn1
  have HZ0 := Aside0.mk hz0
  have HZ1 := Aside0.mk hz1
  have HJ := Aside0.mk hj
  clear hr0 hr1 hn0 hn1 hz0 hz1 hj
  go_enter Try.func10, Try.ntmps10
  go_wp2_with (first | (go_at_call 12; refine (paternosterlaw01_awake.calls true _ rfl).mono ?_; rintro e w1 ⟨rfl, hb1⟩; have HB := Aside0.mk hb1; clear hb1))
  clear hd hd2 hd3 hd4
  go_loopg [6, 7, 8] l0.length (fun g v6 v7 v8 w' => ∃ i : Nat, v8 = .int .i64 i ∧ v6 = .int .i64 (nsum (l0.take i)) ∧ Aside0 (g + i = l0.length) ∧ Aside0 (Kd.N (Kd.slice 5 (Kd.int .u8)) 26 w' w.heap.size (fun _ => True) v7 (l0.take i)) ∧ Aside0 (Below w.heap.size w w'))
  case atStart => exact ⟨0, rfl, rfl, ⟨by omega⟩, ⟨Kd.N_nil _ _ _ _ _⟩, HB⟩
  case round =>
    clear HB
    obtain ⟨i, rfl, rfl, HI, HN, HB⟩ := hrel
    obtain ⟨A7, c7, rfl⟩ := Kd.N_slice HN.out
    cases gk with
    | zero =>
      have hlt : decide ((i : Int) < (l0.length : Int)) = false := decide_eq_false (by have := HI.out; omega)
      have hi : i = l0.length := by have := HI.out; omega
      subst hi
      rw [List.take_length] at HN ⊢
      go_wp2
      clear hlt
      go_loopg [6, 7, 9] l1.length (fun g v6 v7 v9 w' => ∃ i : Nat, v9 = .int .i64 i ∧ v6 = .int .i64 (nsum (l0 ++ l1.take i)) ∧ Aside0 (g + i = l1.length) ∧ Aside0 (Kd.N (Kd.slice 5 (Kd.int .u8)) 26 w' w.heap.size (fun _ => True) v7 (l0 ++ l1.take i)) ∧ Aside0 (Below w.heap.size w w'))
      case atStart => exact ⟨0, rfl, by rw [List.take_zero, List.append_nil], ⟨by omega⟩, ⟨by rw [List.take_zero, List.append_nil]; exact HN.out⟩, HB⟩
      case round =>
        clear HB HN HI
        obtain ⟨i, rfl, rfl, HI, HN, HB⟩ := hrel
        obtain ⟨A7, c7, rfl⟩ := Kd.N_slice HN.out
        cases gk with
        | zero =>
          have hlt : decide ((i : Int) < (l1.length : Int)) = false := decide_eq_false (by have := HI.out; omega)
          have hi : i = l1.length := by have := HI.out; omega
          subst hi
          rw [List.take_length] at HN ⊢
          have hJ2 := HJ.out
          clear HJ
          generalize l0 ++ l1 = L at HN hJ2 ⊢
          by_cases hbig : (60000 : Int) < nsum L
          · have hdb : decide ((60000 : Int) < nsum L) = true := decide_eq_true hbig
            clear hbig hJ2
            go_wp2
            go_ret
            exact ⟨rfl, HB.out⟩
          · have hdb : decide ((60000 : Int) < nsum L) = false := decide_eq_false hbig
            obtain ⟨hja, hjb, hjc, hst, hln, hsz⟩ := hJ2 (by omega)
            have HJA := Aside0.mk hja
            have HJB := Aside0.mk hjb
            have HJC := Aside0.mk hjc
            have hne : (J.length : Int) = nsum L := hln
            have hss : (strOfNums Ja).size + (strOfNums Jb).size ≤ 9223372036854775807 := by rw [strOfNums_size, strOfNums_size]; omega
            have hss2 : ((strOfNums Ja).size + (strOfNums Jb).size ≤ 9223372036854775807) = True := eq_true hss
            have hss3 : (9223372036854775807 < (strOfNums Ja).size + (strOfNums Jb).size) = False := eq_false (Nat.not_lt.2 hss)
            have hss4 : (9223372036854775807 < Ja.length + Jb.length) = False := eq_false (by rw [strOfNums_size, strOfNums_size] at hss; omega)
            clear hJ2 hja hjb hjc hsz hbig hss hln HI
            go_wp2_with (first | (go_at_call 20; refine (octet_Join.calls k A7 c7 L J _ (Kd.N_reads' HN.out).2.2 (Kd.N_reads' HN.out).2.1 HJA.out).mono ?_; rintro e w3 ⟨v3, rfl, ho3, hb3⟩; obtain ⟨A3, c3, rfl⟩ := Kd.R_slice ho3; have HO3 := Aside0.mk ho3; have HB3 := Aside0.mk (below_step HB.out hb3); clear ho3 hb3))
            have hcx : ∀ W : World, Below w3.heap.size w3 W → (convert 26 9 (.slice A3 J.length c3)).run Try.prog W = .ok (.string (strOfNums J)) W := fun W hb => own_string (P := Try.prog) Try.underlying26 Try.underlying5 Try.underlying9 (Kd.own_of_R (Kd.R_below HO3.out hb))
            go_region_held (fun w' => Below w3.heap.size w3 w') (first | assumption | exact below_drew (Below.refl _ _) | exact below_step (by assumption) hb4 | exact below_step (by assumption) hb5) (first
              | (go_at_call 20; (have hq_ := HO4); refine (octet_Join.calls k A1 c1 l1 Jb _ (Kd.C_below HR1.out (below_step HB3.out (by assumption))) hc1 HJC.out).mono ?_; rintro e w5 ⟨v5, rfl, ho5, hb5⟩; obtain ⟨A5, c5, rfl⟩ := Kd.R_slice ho5; have HO5 := Aside0.mk ho5; clear ho5; have hcv5 := own_string (P := Try.prog) Try.underlying26 Try.underlying5 Try.underlying9 (Kd.own_of_R HO5.out); have hcv45 := own_string (P := Try.prog) Try.underlying26 Try.underlying5 Try.underlying9 (Kd.own_of_R (Kd.R_below HO4.out hb5)))
              | (go_at_call 20; refine (octet_Join.calls k A0 c0 l0 Ja _ (Kd.C_below HR0.out (below_step HB3.out (by assumption))) hc0 HJB.out).mono ?_; rintro e w4 ⟨v4, rfl, ho4, hb4⟩; obtain ⟨A4, c4, rfl⟩ := Kd.R_slice ho4; have HO4 := Aside0.mk ho4; clear ho4; have hcv4 := own_string (P := Try.prog) Try.underlying26 Try.underlying5 Try.underlying9 (Kd.own_of_R HO4.out)))
            all_goals go_wp2
            all_goals go_ret
            all_goals exact ⟨rfl, below_step HB3.out (by assumption)⟩
        | succ gko =>
          have hilt : i < l1.length := by have := HI.out; omega
          have hlt : decide ((i : Int) < (l1.length : Int)) = true := decide_eq_true (by omega)
          obtain ⟨ad1, A2, c2, e1, hx1, hl1, hi1⟩ := two_at HR1.out i hilt
          cases e1
          replace hx1 := (HB.out.cell (World.block_lt_of_cell? w _ hx1)).trans hx1
          have p1 : ((0 : Int) ≤ (i : Int)) = True := eq_true (by omega)
          have q1 : ((i : Int) < (l1.length : Int)) = True := eq_true (by omega)
          have htk := two_take l1 i hilt
          have hr : (twoR l1 (i : Int)).length ≤ 140737488355328 := by rw [twoR_nat l1 i hilt]; exact HZ1.out _ (List.getElem_mem hilt)
          have hst := nsum_step (l0 ++ l1.take i) (twoR l1 (i : Int)) (fun r hr => by rcases List.mem_append.1 hr with hr | hr; exact HZ0.out r hr; exact HZ1.out r (List.mem_of_mem_take hr)) hr (by rw [List.length_append, List.length_take]; have := HN0.out; have := HN1.out; omega)
          have hnx : l0 ++ l1.take (i + 1) = (l0 ++ l1.take i) ++ [twoR l1 (i : Int)] := by rw [htk, List.append_assoc]
          have hpl : (l0 ++ l1.take i).length ≤ 40 := by rw [List.length_append, List.length_take]; have := HN0.out; have := HN1.out; omega
          generalize l0 ++ l1.take i = L at HN hst hnx hpl ⊢
          have HTK := Aside0.mk hnx
          have HST := Aside0.mk hst
          have HLT := Aside0.mk hilt
          have hF := Kd.F_below (Kd.C_F (Kd.heap_int .u8) hi1) HB.out
          have HF := Aside0.mk hF
          have HL1 := Aside0.mk hl1
          have HPL := Aside0.mk hpl
          clear hpl hnx htk hst hilt hr hF hi1 hl1
          go_wp2_with (at_builtin; refine Kd.N_append (Kd.slice 5 (Kd.int .u8)) (w0 := w) w.heap.size rfl (.tmp 57) (.tmp 62) 34 26 (.slice none 0 0) 24 rfl Try.underlying34 two_info rfl (by decide) (by decide) (.slice A7 L.length c7) L (twoR l1 (i : Int)) _ (fun _ => True) (fun k => k < w.heap.size) rfl rfl ?hp ?hokp ?hfr ?HO ?HB ?hbase ?hl ?_; (case hp => exact Kd.FK_slice_mk HL1.out HF.out); (case hokp => intro k hk; exact ⟨trivial, fun he => by have := Kd.N_base HN.out k he.symm; omega⟩); (case hfr => intro k hk; trivial); (case HO => exact HN.out); (case HB => exact HB.out); (case hbase => exact below_size HB.out); (case hl => have := HPL.out; omega); intro v9 w9 hn9 hb9 hg9 hat9; have HN9 := Aside0.mk hn9; have HB9 := Aside0.mk hb9; clear hn9 hb9 hg9 hat9)
          go_roundg gko
          case measure => omega
          case rel => exact ⟨i + 1, by rw [two_wrap i (by have := HN1.out; have := HLT.out; omega)], by rw [HST.out, HTK.out], ⟨by have := HI.out; omega⟩, ⟨by rw [HTK.out]; exact HN9.out⟩, HB9⟩
    | succ gko =>
      have hilt : i < l0.length := by have := HI.out; omega
      have hlt : decide ((i : Int) < (l0.length : Int)) = true := decide_eq_true (by omega)
      obtain ⟨ad1, A2, c2, e1, hx1, hl1, hi1⟩ := two_at HR0.out i hilt
      cases e1
      replace hx1 := (HB.out.cell (World.block_lt_of_cell? w _ hx1)).trans hx1
      have p1 : ((0 : Int) ≤ (i : Int)) = True := eq_true (by omega)
      have q1 : ((i : Int) < (l0.length : Int)) = True := eq_true (by omega)
      have htk := two_take l0 i hilt
      have hr : (twoR l0 (i : Int)).length ≤ 140737488355328 := by rw [twoR_nat l0 i hilt]; exact HZ0.out _ (List.getElem_mem hilt)
      have hst := nsum_step (l0.take i) (twoR l0 (i : Int)) (fun r hr => HZ0.out r (List.mem_of_mem_take hr)) hr (by rw [List.length_take]; have := HN0.out; omega)
      rw [← htk] at hst
      have HTK := Aside0.mk htk
      have HST := Aside0.mk hst
      have HLT := Aside0.mk hilt
      have hF := Kd.F_below (Kd.C_F (Kd.heap_int .u8) hi1) HB.out
      have HF := Aside0.mk hF
      have HL1 := Aside0.mk hl1
      have HPL := Aside0.mk (show (l0.take i).length ≤ 20 by rw [List.length_take]; have := HN0.out; omega)
      clear htk hst hilt hr hF hi1 hl1
      go_wp2_with (at_builtin; refine Kd.N_append (Kd.slice 5 (Kd.int .u8)) (w0 := w) w.heap.size rfl (.tmp 36) (.tmp 41) 34 26 (.slice none 0 0) 24 rfl Try.underlying34 two_info rfl (by decide) (by decide) (.slice A7 (l0.take i).length c7) (l0.take i) (twoR l0 (i : Int)) _ (fun _ => True) (fun k => k < w.heap.size) rfl rfl ?hp ?hokp ?hfr ?HO ?HB ?hbase ?hl ?_; (case hp => exact Kd.FK_slice_mk HL1.out HF.out); (case hokp => intro k hk; exact ⟨trivial, fun he => by have := Kd.N_base HN.out k he.symm; omega⟩); (case hfr => intro k hk; trivial); (case HO => exact HN.out); (case HB => exact HB.out); (case hbase => exact below_size HB.out); (case hl => have := HPL.out; omega); intro v9 w9 hn9 hb9 hg9 hat9; have HN9 := Aside0.mk hn9; have HB9 := Aside0.mk hb9; clear hn9 hb9 hg9 hat9)
      go_roundg gko
      case measure => omega
      case rel => exact ⟨i + 1, by rw [two_wrap i (by have := HN0.out; have := HLT.out; omega)], by rw [HST.out], ⟨by have := HI.out; omega⟩, ⟨by rw [HTK.out]; exact HN9.out⟩, HB9⟩
end Go.Proofs.Ytdlmnaoaninkaaa.PAll
