-- Written by myprint.py: the kit's print.py over this seat's translation, with contracts of my own.
import Derived.Test.YtdlmnaoaninkaaaPAllx0
import Derived.Test.YtdlmnaoaninkaaaPAllx5
namespace Go.Proofs.Ytdlmnaoaninkaaa.PAll
open Go.RowKit Go.Proofs.YtdlmnaoaninkaaaW.PrintWords Go.Proofs.YtdlmnaoaninkaaaW.PrintLast Go.Proofs.YtdlmnaoaninkaaaW.PrintMore
attribute [local go_sem] max2_int min2_int max_two min_two max_three min_three max_four min_four   -- for this text's walks alone
set_option linter.unusedVariables false
set_option linter.unusedSimpArgs false

/-! ### octet_Part: function 18 -/
theorem part_infoE : (Try.prog.info? 26).map (fun i => (i.zero, i.size, i.bytes)) = some (some (.slice none 0 0), 1, 24) := by kernel_rfl

/-- The rows of bytes, each with how many there are ahead. -/
def partsF : Nat → List Int → Option (List (List Int))
  | _, [] => some []
  | 0, _ :: _ => none
  | _ + 1, [_] => none
  | fu + 1, a :: b :: r => if (a + 256 * b).toNat ≤ r.length then (partsF fu (r.drop (a + 256 * b).toNat)).map (r.take (a + 256 * b).toNat :: ·) else none

/-- What is left of the bytes lies in block g from off on. -/
def Left (g : Nat) (W : World) (A : Option Addr) (rest : List Int) : Prop :=
  rest ≠ [] → ∃ off, A = some ⟨g, off, none⟩ ∧ (∃ cur, W.heap[g]? = some (.cells cur 5 (0, 0))) ∧ ∀ j z, rest[j]? = some z → W.cell? ⟨g, off + j, none⟩ = some (.int .u8 z)

theorem left_block {g : Nat} {W W' : World} {A : Option Addr} {rest : List Int} (h : Left g W A rest) (hg : W'.heap[g]? = W.heap[g]?) : Left g W' A rest := fun hne => by
  obtain ⟨off, hA, ⟨cur, hcur⟩, hc⟩ := h hne
  exact ⟨off, hA, ⟨cur, hg.trans hcur⟩, fun j z hz => by rw [← hc j z hz]; simp [World.cell?, hg]⟩

theorem FKwin {W : World} {g o cc : Nat} {p : List Int} {cur : Array Value} (hcur : W.heap[g]? = some (.cells cur 5 (0, 0))) (hc : ∀ j z, p[j]? = some z → W.cell? ⟨g, o + j, none⟩ = some (.int .u8 z)) (hl : p.length ≤ 9223372036854775807) (hcc : p.length ≤ cc) :
    Kd.FK (Kd.slice 5 (Kd.int .u8)) W (fun k => k = g) p [.slice (some ⟨g, o, none⟩) p.length cc] := fun W' hW' => by
  have hlt : g < W.heap.size := (Array.getElem?_eq_some_iff.1 hcur).1
  have hg := hW' g rfl hlt
  refine ⟨_, cc, rfl, hcc, rfl, hl, fun _ => ⟨_, rfl, fun j z hz => ⟨[.int .u8 z], rfl, rfl, fun i u hu => ?_⟩⟩⟩
  rcases i with _ | i
  · simp only [List.getElem?_cons_zero, Option.some.injEq] at hu
    subst hu
    have h3 := hc j z hz
    rw [show j * (Kd.int .u8).sz + 0 = j from by simp [Kd.int, Kd.scalar], WideShapes.add_plain]
    rw [← h3]; simp [World.cell?, hg]
  · simp at hu


theorem left_next {g off c K : Nat} {x y : Int} {wr w9 : World} {r : List Int} {cur : Array Value} (hc : ∀ j z, (x :: y :: r)[j]? = some z → wr.cell? ⟨g, off + j, none⟩ = some (.int .u8 z)) (hq : wr.heap[g]? = some (.cells cur 5 (0, 0))) (h9 : w9.heap[g]? = some (.cells cur 5 (0, 0)))
    (hk : K ≤ r.length) (hle : r.length + 1 + 1 ≤ c) : Left g w9 (if c = K + 2 then some ⟨g, off, none⟩ else some ⟨g, off + (K + 2), none⟩) (r.drop K) := fun hne => by
  have hl : 0 < (r.drop K).length := List.length_pos_iff.2 hne
  rw [List.length_drop] at hl
  refine ⟨off + (K + 2), by rw [if_neg (by omega)], ⟨cur, h9⟩, fun j z hz => ?_⟩
  have h3 := hc (K + 2 + j) z (by rw [show K + 2 + j = (K + j) + 1 + 1 by omega]; simpa [List.getElem?_drop] using hz)
  rw [← Nat.add_assoc] at h3
  rw [← h3]
  simp [World.cell?, hq, h9]

def PartPost (w : World) (r : Option (List (List Int))) (e : Ending) (w' : World) : Prop :=
  ∃ v0_ : Value, e = .returned (.tuple #[v0_, .int .i64 (if r.isSome then 0 else 10)]) ∧ Kd.N (Kd.slice 5 (Kd.int .u8)) 26 w' w.heap.size (fun k_ => (w.heap.size ≤ k_)) v0_ (r.getD []) ∧ Below w.heap.size w w'

set_option maxRecDepth 100000 in
set_option maxHeartbeats 4000000 in
theorem part_loop (A0 : Option Addr) (c0 : Nat) (l0 : List Int) (w : World) (hr0 : Kd.C (Kd.int .u8) w A0 l0.length l0) (hc0 : l0.length ≤ c0) (hmx : l0.length ≤ 1099511627776) (hb : ∀ x ∈ l0, 0 ≤ x ∧ x ≤ 255) :
    Calls Try.prog 18 #[.slice A0 l0.length c0] w (PartPost w (partsF l0.length l0)) := by
  have HR0 := Aside0.mk hr0
  have HC0 := Aside0.mk hc0
  have hcl := fun W (hW : Kd.C (Kd.int .u8) W A0 l0.length l0) => slices_Clone_byte_byte.calls A0 c0 l0 l0 W hW hc0 (by simp [slices_Clone_byte_byte.f]; omega)
  clear hr0 hc0
  go_enter Try.func18, Try.ntmps18
  go_wp2_with (first | (go_at_call 23; refine (hcl _ HR0.out).mono ?_; rintro e w1 ⟨v0, rfl, ho, hbel⟩))
  obtain ⟨g, A, c, rfl, hc, hleft, hgw⟩ : ∃ g A c, v0 = .slice A l0.length c ∧ l0.length ≤ c ∧ Left g w1 A l0 ∧ w.heap.size ≤ g := by
    rcases (Kd.own_of_R ho).2 with ⟨rfl, h0⟩ | ⟨g, cap, cur, rfl, hg, hh, hn, hm, hs, ht⟩
    · have hl0 : l0 = [] := List.eq_nil_of_length_eq_zero h0
      subst hl0
      exact ⟨w.heap.size, none, 0, rfl, Nat.le_refl _, fun h => absurd rfl h, Nat.le_refl _⟩
    · refine ⟨g, _, cap, rfl, hn, fun hne => ⟨0, rfl, ⟨cur, hh⟩, fun j z hz => ?_⟩, hg⟩
      have h3 : (cur.toList.take (l0.length * 1))[j]? = some (.int .u8 z) := by rw [ht]; simp [encs, hz]
      rw [List.getElem?_take] at h3
      split at h3
      · simp only [World.cell?, hh, Nat.zero_add]
        simpa using h3
      · cases h3
  have HB0 := Aside0.mk hbel
  have HLE := Aside0.mk hleft
  have HGW := Aside0.mk hgw
  have HPF := Lib.hid (rfl : partsF l0.length l0 = partsF l0.length l0)
  clear hbel hleft hgw ho hcl
  go_loopw [0, 4] (fun bv ov wr => ∃ (pre : List (List Int)) (rest : List Int) (A : Option Addr) (c fu : Nat), bv = .slice A rest.length c ∧ Aside0 (rest.length ≤ c) ∧ Aside0 (∀ x ∈ rest, 0 ≤ x ∧ x ≤ 255) ∧ rest.length ≤ 1099511627776 ∧ Aside0 (Left g wr A rest) ∧ Aside0 (pre.length + rest.length ≤ l0.length) ∧ Aside0 (rest.length ≤ fu ∧ partsF l0.length l0 = (partsF fu rest).map (pre ++ ·)) ∧ Aside0 (Kd.N (Kd.slice 5 (Kd.int .u8)) 26 wr w.heap.size (fun k_ => w.heap.size ≤ k_) ov pre) ∧ Aside0 (Below w.heap.size w wr))
    (fun bv _ _ => match bv with | .slice _ n _ => n | _ => 0)
  case atStart => exact ⟨[], l0, A, c, l0.length, rfl, ⟨hc⟩, ⟨hb⟩, hmx, HLE, ⟨by simp⟩, ⟨Nat.le_refl _, by simp⟩, ⟨Kd.N_nil _ _ _ _ _⟩, HB0⟩
  case round =>
    clear HLE HB0 hc
    obtain ⟨pre, rest, A2, c2, fu, rfl, HC, HBY, hrl, HLE, HPL, HFU, HN, HB⟩ := hrel
    cases rest with
    | nil =>
      have hfin : partsF l0.length l0 = some pre := by rw [HFU.out.2]; cases fu <;> simp [partsF]
      have HF := Lib.hid hfin
      clear hfin
      go_wp2
      go_ret2
      rw [HF.out]
      exact ⟨_, by simp, HN.out, HB.out⟩
    | cons a r1 =>
      cases r1 with
      | nil =>
        have hfin : partsF l0.length l0 = none := by rw [HFU.out.2]; cases fu <;> simp [partsF]
        have HF := Lib.hid hfin
        clear hfin
        go_wp2
        go_ret2
        rw [HF.out]
        exact ⟨_, by simp, Kd.N_nil _ _ _ _ _, HB.out⟩
      | cons b r =>
        obtain ⟨off, rfl, ⟨cur, hcur⟩, hcells⟩ := HLE.out (by simp)
        have hca : wr.cell? ⟨g, off, none⟩ = some (.int .u8 a) := hcells 0 a rfl
        have hcb : wr.cell? ⟨g, off + 1, none⟩ = some (.int .u8 b) := hcells 1 b rfl
        have hab := HBY.out a (by simp)
        have hbb := HBY.out b (by simp)
        have ha0 := hab.1
        have ha1 := hab.2
        have hb0 := hbb.1
        have hb1 := hbb.2
        have hcc : r.length + 1 + 1 ≤ c2 := HC.out
        have HCL := Aside0.mk hcells
        clear hab hbb hcells hb
        by_cases hk : (a + 256 * b).toNat ≤ r.length
        · have hd : decide ((r.length : Int) + 1 + 1 < 2 + a + b * 256) = false := decide_eq_false (by omega)
          have hd2 : decide (2 + a + b * 256 ≤ (r.length : Int) + 1 + 1) = true := decide_eq_true (by omega)
          obtain ⟨K, hK⟩ : ∃ K : Nat, a + 256 * b = K := ⟨(a + 256 * b).toNat, by omega⟩
          rw [show (a + 256 * b).toNat = K by omega] at hk
          have HK := Lib.hid hK
          have hv : 2 + a + b * 256 = ((K + 2 : Nat) : Int) := by omega
          clear hK hd hd2
          go_wp2
          go_quiet (fail)
          clear hv
          have hd3 : decide ((r.length : Int) + 1 + 1 < (K : Int) + 2) = false := decide_eq_false (by omega)
          have hcur2 : (wr.drewN nq).heap[g]? = some (.cells cur 5 (0, 0)) := hcur
          have HND := Aside0.mk (Kd.N_drewN HN.out nq)
          have HBD := Aside0.mk (pw_below_drewN HB.out nq)
          have hfu : partsF l0.length l0 = ((partsF (fu - 1) (r.drop K)).map ((pre ++ [r.take K]) ++ ·)) := by
            rw [HFU.out.2]
            have hf1 := HFU.out.1
            simp only [List.length_cons] at hf1
            obtain ⟨fu, rfl⟩ : ∃ f, fu = f + 1 := ⟨fu - 1, by omega⟩
            simp only [partsF, show (a + 256 * b).toNat = K by have := HK.out; omega, if_pos hk, Nat.add_sub_cancel, Option.map_map]
            congr 1
            funext z
            simp
          have HFN := Lib.hid hfu
          clear hfu hcur
          rcases Nat.eq_zero_or_pos K with rfl | hKp
          · go_wp2_with (at_builtin; refine Kd.N_append (Kd.slice 5 (Kd.int .u8)) (w0 := w) w.heap.size rfl (.tmp 29) (.tmp 34) 34 26 (.slice none 0 0) 24 rfl Try.underlying34 part_infoE rfl (by decide) (by decide) u4 pre [] _ (fun k_ => w.heap.size ≤ k_) (fun k => k = g) rfl rfl ?hp ?hokp ?hfr ?HO ?HB ?hbase ?hl ?_; (case hp => exact (FKwin (p := []) hcur2 (fun j z hz => by simp at hz) (by simp) (by simp))); (case hokp => rintro k rfl; exact ⟨HGW.out, Kd.N_ne HND.out hcur2 (by decide)⟩); (case hfr => intro k hk; exact Nat.le_trans (below_size HBD.out) hk); (case HO => exact HND.out); (case HB => exact HBD.out); (case hbase => exact below_size HBD.out); (case hl => have := HPL.out; simp only [List.length_cons] at this; omega); intro v9 w9 hn9 hb9 hg9 hat9; obtain ⟨A9, c9, rfl⟩ := Kd.N_slice hn9; have HN9 := Aside0.mk hn9; have HB9 := Aside0.mk hb9; have hw9 : w9.heap[g]? = some (.cells cur 5 (0, 0)) := (hg9.block g (Array.getElem?_eq_some_iff.1 hcur2).1 (Kd.N_ne HND.out hcur2 (by decide))).trans hcur2; clear hn9 hb9 hg9 hat9)
            go_roundw
            case rel => exact ⟨pre ++ [[]], r, _, _, fu - 1, rfl, ⟨by have := HC.out; simp only [List.length_cons] at this; omega⟩, ⟨fun x hx => HBY.out x (by simp [hx])⟩, by simp only [List.length_cons] at hrl; omega, ⟨left_next (K := 0) HCL.out hcur2 hw9 (by omega) (by omega)⟩, ⟨by have := HPL.out; simp only [List.length_cons, List.length_append, List.length_nil] at this ⊢; omega⟩, ⟨by have := HFU.out.1; simp only [List.length_cons] at this; omega, by simpa using HFN.out⟩, ⟨by simpa using HN9.out⟩, HB9⟩
            case measure => simp; omega
          · have hwin : Aside0 (∀ j z, (r.take K)[j]? = some z → (wr.drewN nq).cell? ⟨g, off + 2 + j, none⟩ = some (.int .u8 z)) := ⟨fun j z hz => by
              have hz2 : (a :: b :: r)[j + 2]? = some z := by
                rw [List.getElem?_take] at hz
                split at hz
                · simpa using hz
                · cases hz
              have := HCL.out (j + 2) z hz2
              rw [show off + 2 + j = off + (j + 2) by omega]
              exact this⟩
            have hlt_ : (r.take K).length = K := by rw [List.length_take]; omega
            have HFKW : Aside0 (Kd.FK (Kd.slice 5 (Kd.int .u8)) (wr.drewN nq) (fun k => k = g) (r.take K) [.slice (some ⟨g, off + 2, none⟩) K K]) := ⟨by
              have hw_ := FKwin (o := off + 2) (cc := K) (p := r.take K) hcur2 hwin.out (by simp only [List.length_cons] at hrl; omega) (by omega)
              rw [hlt_] at hw_
              exact hw_⟩
            clear hlt_
            go_wp2_with (at_builtin; refine Kd.N_append (Kd.slice 5 (Kd.int .u8)) (w0 := w) w.heap.size rfl (.tmp 29) (.tmp 34) 34 26 (.slice none 0 0) 24 rfl Try.underlying34 part_infoE rfl (by decide) (by decide) u4 pre (r.take K) _ (fun k_ => w.heap.size ≤ k_) (fun k => k = g) rfl rfl ?hp ?hokp ?hfr ?HO ?HB ?hbase ?hl ?_; (case hp => exact HFKW.out); (case hokp => rintro k rfl; exact ⟨HGW.out, Kd.N_ne HND.out hcur2 (by decide)⟩); (case hfr => intro k hk; exact Nat.le_trans (below_size HBD.out) hk); (case HO => exact HND.out); (case HB => exact HBD.out); (case hbase => exact below_size HBD.out); (case hl => have := HPL.out; simp only [List.length_cons] at this; omega); intro v9 w9 hn9 hb9 hg9 hat9; obtain ⟨A9, c9, rfl⟩ := Kd.N_slice hn9; have HN9 := Aside0.mk hn9; have HB9 := Aside0.mk hb9; have hw9 : w9.heap[g]? = some (.cells cur 5 (0, 0)) := (hg9.block g (Array.getElem?_eq_some_iff.1 hcur2).1 (Kd.N_ne HND.out hcur2 (by decide))).trans hcur2; clear hn9 hb9 hg9 hat9)
            go_roundw
            case rel => exact ⟨pre ++ [r.take K], r.drop K, _, _, fu - 1, by rw [List.length_drop, show r.length + 1 + 1 - (K + 2) = r.length - K by omega], ⟨by have := HC.out; simp only [List.length_cons, List.length_drop] at this ⊢; omega⟩, ⟨fun x hx => HBY.out x (List.mem_cons_of_mem _ (List.mem_cons_of_mem _ (List.mem_of_mem_drop hx)))⟩, by simp only [List.length_cons, List.length_drop] at hrl ⊢; omega, ⟨left_next HCL.out hcur2 hw9 hk hcc⟩, ⟨by have := HPL.out; simp only [List.length_cons, List.length_append, List.length_nil, List.length_drop] at this ⊢; omega⟩, ⟨by have := HFU.out.1; simp only [List.length_cons, List.length_drop] at this ⊢; omega, HFN.out⟩, ⟨by simpa using HN9.out⟩, HB9⟩
            case measure => simp; omega
        · have hd : decide ((r.length : Int) + 1 + 1 < 2 + a + b * 256) = true := decide_eq_true (by omega)
          have hfin : partsF l0.length l0 = none := by
            rw [HFU.out.2]
            cases fu with
            | zero => simp [partsF]
            | succ fu => simp [partsF, hk]
          have HF := Lib.hid hfin
          clear hfin
          go_wp2
          go_quiet (fail)
          go_wp2
          go_ret2
          rw [HF.out]
          exact ⟨_, by simp, Kd.N_nil _ _ _ _ _, pw_below_drewN HB.out _⟩

/-- octet.Part, in plain words. -/
def octet_Part.f (l0 : List Int) : Option (List (List Int) × Int) :=
  if l0.length ≤ 1099511627776 ∧ ∀ x ∈ l0, 0 ≤ x ∧ x ≤ 255 then some ((partsF l0.length l0).getD [], if (partsF l0.length l0).isSome then 0 else 10) else none
theorem octet_Part.calls (A0 : Option Addr) (c0 : Nat) (l0 : List Int) (r1 : List (List Int)) (r2 : Int) (w : World) (hr0 : Kd.C (Kd.int .u8) w A0 l0.length l0) (hc0 : l0.length ≤ c0) (h : octet_Part.f l0 = some (r1, r2)) :
    Calls Try.prog 18 #[.slice A0 l0.length c0] w fun e w' => ∃ v0_ : Value, e = .returned (.tuple #[v0_, .int .i64 r2]) ∧ Kd.N (Kd.slice 5 (Kd.int .u8)) 26 w' w.heap.size (fun k_ => (w.heap.size ≤ k_)) v0_ r1 ∧ Below w.heap.size w w' := by
  unfold octet_Part.f at h
  by_cases h5 : l0.length ≤ 1099511627776 ∧ ∀ x ∈ l0, 0 ≤ x ∧ x ≤ 255
  · rw [if_pos h5] at h
    simp only [Option.some.injEq, Prod.mk.injEq] at h
    obtain ⟨rfl, rfl⟩ := h
    exact part_loop A0 c0 l0 w hr0 hc0 h5.1 h5.2
  · rw [if_neg h5] at h
    cases h

end Go.Proofs.Ytdlmnaoaninkaaa.PAll
