/- JournalPuts: for every input the law returns true, the table as it is laid. No condition. -/
import Derived.Test.YtbcijmpkmmcdeaaDoorCJPuts15
import Derived.Test.YtbcijmpkmmcdeaaDoorCJPuts18
import Derived.Test.YtbcijmpkmmcdeaaDoorCJPuts9
import Derived.Test.YtbcijmpkmmcdeaaDoorCJPuts3
import Derived.Test.YtbcijmpkmmcdeaaDoorCJPuts4
import Derived.SizedLaws
import Derived.ChangeArms
import Derived.DataElems
import Derived.DataReads
import Derived.ProofKit
import Derived.OpenShut
import Derived.ChangeSame
import Derived.Test.YtbcijmpkmmcdeaaDoorRows
import Derived.LaidLaws
import Derived.JoinedOf
import Derived.ChangeVars
import Derived.Handed
import Derived.Test.YtbcijmpkmmcdeaaDoorTie
import Derived.Test.YtbcijmpkmmcdeaaDoorCards
import Derived.SevenTiedAt
import Derived.WalkKit
import Derived.ShutString
import Derived.ChangeOld
import Derived.Below
section
namespace Go.Proofs.YtbcijmpkmmcdeaaDoor.SF
open Go.RowKit Go.Sx Go.Proofs.YtbcijmpkmmcdeaaDoor.PAll Go.Proofs.YtbcijmpkmmcdeaaDoorW.PrintWords Go.Proofs.YtbcijmpkmmcdeaaDoorW.PrintLast Go.Proofs.YtbcijmpkmmcdeaaDoorW.PrintMore
open Go.Proofs.YtbcijmpkmmcdeaaDoor.Pure (le puts puts_length sealed w64 wu64 bt_str str_drop str_extract ref_get_ev ref_part_l0 refRes ref_open_ev ref_open_short rdOf_nat rd_nat str_app)
open Go.Proofs.YtbcijmpkmmcdeaaDoor.PChk (sumP chkB rowsB rowB knB pwB rowsB_succ rowsB_no chkB_no)
set_option linter.unusedVariables false
set_option linter.unusedSimpArgs false
set_option maxRecDepth 100000
def Ev {α : Type} (F : Nat → Option α) (r : α) : Prop := ∃ K, ∀ k, K ≤ k → F k = some r
theorem Ev.succ {α : Type} {F : Nat → Option α} {r : α} (h : Ev (fun k => F (k + 1)) r) : Ev F r := by
  obtain ⟨K, hK⟩ := h
  refine ⟨K + 1, fun k hk => ?_⟩
  obtain ⟨k, rfl⟩ : ∃ m, k = m + 1 := ⟨k - 1, by omega⟩
  exact hK k (by omega)
theorem Ev.now {α : Type} (r : α) : Ev (fun _ => some r) r := ⟨0, fun _ _ => rfl⟩
theorem Ev.eq {α : Type} {F G : Nat → Option α} {r : α} (h : Ev G r) (e : ∀ k, F k = G k) : Ev F r := by
  obtain ⟨K, hK⟩ := h
  exact ⟨K, fun k hk => (e k).trans (hK k hk)⟩
theorem Ev.bind {α β : Type} {F : Nat → Option α} {G : Nat → α → Option β} {x : α} {r : β} (h : Ev F x) (h2 : Ev (fun k => G k x) r) : Ev (fun k => (F k).bind (G k)) r := by
  obtain ⟨K, hK⟩ := h
  obtain ⟨K2, hK2⟩ := h2
  refine ⟨K + K2, fun k hk => ?_⟩
  show (F k).bind (G k) = some r
  rw [hK k (by omega), Option.bind_some]
  exact hK2 k (by omega)
theorem Ev.yes {α : Type} {c : Prop} [Decidable c] {F G : Nat → Option α} {r : α} (hc : c) (h : Ev F r) : Ev (fun k => if c then F k else G k) r := h.eq (fun k => if_pos hc)
theorem Ev.no {α : Type} {c : Prop} [Decidable c] {F G : Nat → Option α} {r : α} (hc : ¬ c) (h : Ev G r) : Ev (fun k => if c then F k else G k) r := h.eq (fun k => if_neg hc)
theorem Ev.yes1 {α : Type} {c : Prop} [Decidable c] {F : Nat → Option α} {r : α} (hc : c) (h : Ev F r) : Ev (fun k => if c then F k else none) r := h.eq (fun k => if_pos hc)
theorem Ev.of {α : Type} {F : Nat → Option α} {r : α} (h : ∃ K, ∀ k, K ≤ k → F k = some r) : Ev F r := h
theorem rd91 {l : List S51} {i : Nat} {p : S51} (h : l[i]? = some p) : rd_T91 (l.map to91) (i : Int) = ⟨p.f0, p.f1⟩ := by
  unfold rd_T91
  rw [Int.toNat_natCast, List.getD_eq_getElem?_getD, List.getElem?_map, h]
  rfl
theorem rdT51 {l : List S51} {i : Nat} {p : S51} (h : l[i]? = some p) : rd_T51 l (i : Int) = p := by
  unfold rd_T51
  rw [Int.toNat_natCast, List.getD_eq_getElem?_getD, h]
  rfl
theorem wadd1 {i : Nat} (h : i < 4611686018427387904) : wrap64 ((i : Int) + 1) = ((i + 1 : Nat) : Int) := by rw [w64 _ (by omega)]; rfl
theorem find_l0 (b m c car : Int) (l : List S51) (hl : l.length ≤ 1000000) : ∀ (d i : Nat), l.length - i = d → i ≤ l.length → Ev (fun k => paternosterref15_Find.l0 k car (i : Int) b m c (l.map to91)) (PChk.ixs l (fun p => p.f0 == car) i)
  | 0, i, hd, hi => by
    obtain rfl : i = l.length := by omega
    rw [PChk.ixs_end]
    refine Ev.succ ((Ev.now (-1)).eq (fun k => ?_))
    simp only [paternosterref15_Find.l0]
    rw [if_neg (by rw [List.length_map]; omega)]
  | d + 1, i, hd, hi => by
    obtain ⟨p, hp⟩ : ∃ p, l[i]? = some p := ⟨_, List.getElem?_eq_getElem (by omega)⟩
    rw [PChk.ixs_step l _ i (by omega), rdT51 hp]
    refine Ev.succ ?_
    simp only [paternosterref15_Find.l0]
    refine Ev.yes (by rw [List.length_map]; omega) (Ev.yes1 (by omega) ?_)
    rw [rd91 hp]
    by_cases h : p.f0 = car
    · rw [if_pos (by simpa using h)]
      exact Ev.yes h (Ev.now _)
    · rw [if_neg (by simpa using h), wadd1 (by omega)]
      exact Ev.no h (find_l0 b m c car l hl d (i + 1) (by omega) (by omega))
theorem find_ev (b m c car : Int) (l : List S51) (hl : l.length ≤ 1000000) : Ev (fun k => paternosterref15_Find.f k b m c (l.map to91) car) (PChk.ixf l (fun p => p.f0 == car)) := by
  rw [PChk.ixs_zero]
  exact find_l0 b m c car l hl l.length 0 rfl (by omega)
theorem rsum_l0 (b m c : Int) (l : List S51) (hl : l.length ≤ 10000) (hb : ∀ p ∈ l, 0 ≤ p.f1 ∧ p.f1 ≤ 1048576) : ∀ (d i : Nat) (acc : Int), l.length - i = d → i ≤ l.length → 0 ≤ acc → acc ≤ 1048576 * i →
    Ev (fun k => paternosterref15_Sum.l0 k acc (i : Int) b m c (l.map to91)) (acc + sumP (l.drop i))
  | 0, i, acc, hd, hi, h0, h1 => by
    obtain rfl : i = l.length := by omega
    rw [List.drop_length, show sumP [] = 0 from rfl, Int.add_zero]
    refine Ev.succ ((Ev.now acc).eq (fun k => ?_))
    simp only [paternosterref15_Sum.l0]
    rw [if_neg (by rw [List.length_map]; omega)]
  | d + 1, i, acc, hd, hi, h0, h1 => by
    obtain ⟨p, hp⟩ : ∃ p, l[i]? = some p := ⟨_, List.getElem?_eq_getElem (by omega)⟩
    have hpb := hb p (List.mem_of_getElem? hp)
    have hdr : l.drop i = p :: l.drop (i + 1) := by
      obtain ⟨h2, h3⟩ := List.getElem?_eq_some_iff.1 hp
      rw [List.drop_eq_getElem_cons h2, h3]
    rw [hdr, show sumP (p :: l.drop (i + 1)) = p.f1 + sumP (l.drop (i + 1)) from rfl, ← Int.add_assoc]
    refine Ev.succ ?_
    simp only [paternosterref15_Sum.l0]
    refine Ev.yes (by rw [List.length_map]; omega) (Ev.yes1 (by omega) ?_)
    rw [rd91 hp, wadd1 (by omega)]
    dsimp only
    rw [w64 _ (by omega)]
    exact rsum_l0 b m c l hl hb d (i + 1) (acc + p.f1) (by omega) (by omega) (by omega) (by omega)
theorem rsum_ev (b m c : Int) (l : List S51) (hl : l.length ≤ 10000) (hb : ∀ p ∈ l, 0 ≤ p.f1 ∧ p.f1 ≤ 1048576) : Ev (fun k => paternosterref15_Sum.f k b m c (l.map to91)) (sumP l) := by
  have h := rsum_l0 b m c l hl hb l.length 0 0 rfl (by omega) (by omega) (by omega)
  rw [List.drop_zero, Int.zero_add] at h
  exact h
theorem rpow_ev (x : Int) : paternosterref15_power.f x = some (pwB x) := by
  unfold paternosterref15_power.f pwB
  by_cases h : x ≥ 0
  · rw [if_pos h]; congr 1; simp [h]
  · rw [if_neg h]; congr 1; simp; omega
theorem rowB_at {l : List S51} {i : Nat} {p : S51} (h : l[i]? = some p) : rowB l i = (decide (PChk.ixf l (fun q => q.f0 == p.f0) = (i : Int)) && (knB p.f0 && pwB p.f1)) := by
  obtain ⟨hi, he⟩ := List.getElem?_eq_some_iff.1 h
  unfold rowB
  rw [rdT51 h]
  congr 1
  unfold PChk.ixf
  have hlt : l.findIdx (fun q => q.f0 == p.f0) < l.length := List.findIdx_lt_length_of_exists ⟨p, List.mem_of_getElem? h, by simp⟩
  rw [if_pos hlt]
  have hiff : (l.findIdx (fun q => q.f0 == p.f0) = i) ↔ ¬ ((l.take i).findIdx (fun q => q.f0 == p.f0) < (l.take i).length) := by
    rw [List.findIdx_eq hi]
    constructor
    · rintro ⟨_, h2⟩ h3
      rw [List.findIdx_lt_length] at h3
      obtain ⟨x, hx, hpx⟩ := h3
      obtain ⟨j, hj, rfl⟩ := List.mem_iff_getElem.1 hx
      rw [List.length_take] at hj
      rw [List.getElem_take] at hpx
      have := h2 j (by omega)
      rw [hpx] at this
      cases this
    · intro h3
      refine ⟨by rw [he]; simp, fun j hj => ?_⟩
      rw [List.findIdx_lt_length] at h3
      cases hc : (l[j].f0 == p.f0) with
      | false => rfl
      | true =>
        refine absurd ⟨l[j], List.mem_iff_getElem.2 ⟨j, by rw [List.length_take]; omega, by rw [List.getElem_take]⟩, hc⟩ h3
  by_cases hc : (l.take i).findIdx (fun q => q.f0 == p.f0) < (l.take i).length
  · rw [if_pos hc, decide_eq_true (show (0 : Int) ≤ _ by omega), decide_eq_false (fun e => (hiff.1 (by exact_mod_cast e)) hc)]
    rfl
  · rw [if_neg hc, decide_eq_false (show ¬ (0 : Int) ≤ -1 by omega), decide_eq_true (show ((l.findIdx (fun q => q.f0 == p.f0) : Nat) : Int) = (i : Int) by rw [hiff.2 hc])]
    rfl
theorem rowsB_mem {l : List S51} (h : rowsB l l.length = true) : ∀ p ∈ l, 0 ≤ p.f1 ∧ p.f1 ≤ 1048576 := by
  intro p hp
  obtain ⟨i, hi, rfl⟩ := List.mem_iff_getElem.1 hp
  have := (List.all_eq_true.1 h) i (List.mem_range.2 hi)
  rw [rowB_at (List.getElem?_eq_getElem hi)] at this
  simp only [Bool.and_eq_true, pwB, decide_eq_true_eq] at this
  exact this.2.2
theorem rchk_l0 (b m c : Int) (l : List S51) (hl : l.length ≤ 10000) : ∀ (d i : Nat), l.length - i = d → i ≤ l.length → rowsB l i = true → Ev (fun k => paternosterref15_Check.l0 k (i : Int) b m c (l.map to91)) (chkB b m c l)
  | 0, i, hd, hi, hr => by
    obtain rfl : i = l.length := by omega
    refine Ev.succ ?_
    simp only [paternosterref15_Check.l0]
    refine Ev.no (by rw [List.length_map]; omega) ?_
    unfold chkB
    rw [hr, Bool.true_and, rpow_ev, rpow_ev, rpow_ev]
    simp only [Option.bind_some]
    cases hb : pwB b with
    | false => exact Ev.no (by decide) (Ev.now _)
    | true =>
      refine Ev.yes rfl ?_
      cases hm : pwB m with
      | false => exact Ev.no (by decide) (Ev.now _)
      | true =>
        refine Ev.yes rfl ?_
        cases hc : pwB c with
        | false => exact Ev.no (by decide) (Ev.now _)
        | true =>
          refine Ev.yes rfl ?_
          exact Ev.bind (rsum_ev b m c l hl (rowsB_mem hr)) (Ev.now _)
  | d + 1, i, hd, hi, hr => by
    obtain ⟨p, hp⟩ : ∃ p, l[i]? = some p := ⟨_, List.getElem?_eq_getElem (by omega)⟩
    have hat := rowB_at hp
    refine Ev.succ ?_
    simp only [paternosterref15_Check.l0]
    refine Ev.yes (by rw [List.length_map]; omega) (Ev.yes1 (by omega) ?_)
    rw [rd91 hp]
    have bad : rowB l i = false → Ev (fun _ : Nat => some false) (chkB b m c l) := fun h => by rw [chkB_no b m c l i (by omega) h]; exact Ev.now _
    by_cases h1 : p.f0 < 0
    · exact Ev.yes h1 (bad (by rw [hat, show knB p.f0 = false by unfold knB; simp; omega]; simp))
    refine Ev.no h1 ?_
    by_cases h2 : p.f0 > 63
    · exact Ev.yes h2 (bad (by rw [hat, show knB p.f0 = false by unfold knB; simp; omega]; simp))
    refine Ev.no h2 ?_
    by_cases h3 : p.f1 < 0
    · exact Ev.yes h3 (bad (by rw [hat, show pwB p.f1 = false by unfold pwB; simp; omega]; simp))
    refine Ev.no h3 ?_
    by_cases h4 : p.f1 > 1048576
    · exact Ev.yes h4 (bad (by rw [hat, show pwB p.f1 = false by unfold pwB; simp; omega]; simp))
    refine Ev.no h4 ?_
    refine Ev.bind (find_ev b m c p.f0 l (by omega)) ?_
    by_cases h5 : PChk.ixf l (fun q => q.f0 == p.f0) = (i : Int)
    · refine Ev.yes h5 ?_
      rw [wadd1 (by omega)]
      refine rchk_l0 b m c l hl d (i + 1) (by omega) (by omega) ?_
      rw [rowsB_succ, hr, hat, decide_eq_true h5, show knB p.f0 = true by unfold knB; simp; omega, show pwB p.f1 = true by unfold pwB; simp; omega]
      rfl
    · exact Ev.no h5 (bad (by rw [hat, decide_eq_false h5]; rfl))
theorem rchk_ev (b m c : Int) (l : List S51) (hl : l.length ≤ 10000) : Ev (fun k => paternosterref15_Check.f k b m c (l.map to91)) (chkB b m c l) :=
  rchk_l0 b m c l hl l.length 0 rfl (by omega) rfl
theorem rnum_ev (n : Nat) (h1 : 1 ≤ n) (h8 : n ≤ 8) (r : List Int) (hr : n ≤ r.length) (hb : ∀ x ∈ r, 0 ≤ x ∧ x ≤ 255) : Ev (fun k => paternosterref16_num.f k (strOfNums r) (n : Int)) (leNum (r.take n)) := by
  have hlen : (r.take n).length = n := by rw [List.length_take]; omega
  have h := ref_get_ev n h1 h8 (r.take n) (by rw [hlen]; simp) (fun x hx => hb x (List.mem_of_mem_take hx)) (by omega)
  unfold paternosterref16_num.f
  rw [strOfNums_size]
  refine Ev.yes1 (by omega) (Ev.yes1 (by omega) ?_)
  rw [str_extract _ _ _ (by omega), List.drop_zero, Nat.sub_zero, Int.toNat_natCast]
  refine Ev.bind (x := (gets n ((r.take n).length / n) (r.take n), 0)) (Ev.of h) ?_
  rw [hlen, Nat.div_self (by omega)]
  refine Ev.yes1 (by simp [gets]) ?_
  rw [show rd (gets n 1 (r.take n)) 0 = leNum (r.take n) by
    rw [show (0 : Int) = ((0 : Nat) : Int) from rfl, rd_nat _ 0 (by simp [gets])]
    simp [gets, List.take_take]]
  exact Ev.now _
end Go.Proofs.YtbcijmpkmmcdeaaDoor.SF
end
section
namespace Go.Proofs.YtbcijmpkmmcdeaaDoor.SF
open Go.RowKit Go.Sx Go.Proofs.YtbcijmpkmmcdeaaDoor.PAll Go.Proofs.YtbcijmpkmmcdeaaDoorW.PrintWords Go.Proofs.YtbcijmpkmmcdeaaDoorW.PrintLast Go.Proofs.YtbcijmpkmmcdeaaDoorW.PrintMore
open Go.Proofs.YtbcijmpkmmcdeaaDoor.Pure (le puts puts_length sealed w64 wu64 bt_str str_drop str_extract ref_get_ev ref_part_l0 refRes ref_open_ev ref_open_short rdOf_nat rd_nat str_app)
set_option linter.unusedVariables false
set_option linter.unusedSimpArgs false
set_option maxRecDepth 100000
theorem ropen_ev {l : List Int} (hb : ∀ x ∈ l, 0 ≤ x ∧ x ≤ 255) (hl : l.length ≤ 10000) : Ev (fun k => paternosterref02_Open.f k (strOfNums l)) (strOfNums (openF l).1, (openF l).2) := by
  rcases Nat.lt_or_ge l.length 4 with h | h
  · refine (Ev.now _).eq (fun k => (ref_open_short l h k).trans ?_)
    unfold openF
    rw [if_neg (by omega)]
    rfl
  · obtain ⟨K, hK⟩ := ref_open_ev l h hb hl
    refine ⟨K, fun k hk => (hK k hk).trans ?_⟩
    unfold openF
    by_cases he : sealed (l.take (l.length - 4)) = l
    · rw [if_pos he, if_pos ⟨h, he⟩]
    · rw [if_neg he, if_neg (fun h => he h.2)]
      rfl
theorem rpart_ev {l : List Int} (hb : ∀ x ∈ l, 0 ≤ x ∧ x ≤ 255) (hl : l.length ≤ 10000) : Ev (fun k => paternosterref01_Part.f k (strOfNums l)) (refRes [] (PAll.partsF l.length l)) :=
  ref_part_l0 l.length l [] (Nat.le_refl _) hb (by omega) (by rw [List.length_nil]; omega)
theorem rdRow (rows : List (List Int)) (i : Nat) (h : i < rows.length) : rdOf ByteArray.empty (rows.map strOfNums) (i : Int) = strOfNums (rows.getD i []) := by
  rw [rdOf_nat _ i (by rw [List.length_map]; exact h), List.getElem_map, List.getD_eq_getElem?_getD, List.getElem?_eq_getElem h]
  rfl
theorem gets_at (sz m j : Nat) (l : List Int) (h : j < m) : (gets sz m l).getD j 0 = leNum ((l.drop (j * sz)).take sz) := by
  unfold gets
  rw [List.getD_eq_getElem?_getD, List.getElem?_map, List.getElem?_range h]
  rfl
theorem le4_small {l : List Int} (hb : ∀ x ∈ l, 0 ≤ x ∧ x ≤ 255) : 0 ≤ leNum (l.take 4) ∧ leNum (l.take 4) < 4294967296 := by
  obtain ⟨h1, h2⟩ := leNum_lt (l.take 4) (fun x hx => hb x (List.mem_of_mem_take hx))
  have h3 : (l.take 4).length ≤ 4 := by rw [List.length_take]; omega
  have h4 : (256 : Int) ^ (l.take 4).length ≤ 256 ^ 4 := by
    have : (256 : Nat) ^ (l.take 4).length ≤ 256 ^ 4 := Nat.pow_le_pow_right (by decide) h3
    exact_mod_cast this
  exact ⟨h1, Int.lt_of_lt_of_le h2 h4⟩
theorem i64_small {x : Int} (h : 0 ≤ x ∧ x < 4294967296) : IntKind.i64.wrap x = wrap64 x := by rw [wrap_id (by omega), w64 _ (by omega)]
theorem gP_is {rows : List (List Int)} {j : Nat} (h : j < (rows.getD 2 []).length / 8) (hb : ∀ x ∈ rows.getD 2 [], 0 ≤ x ∧ x ≤ 255) :
    gP rows j = ⟨wrap64 (leNum (((rows.getD 2 []).drop (8 * j)).take 4)), wrap64 (leNum (((rows.getD 2 []).drop (8 * j + 4)).take 4))⟩ := by
  unfold gP
  show (⟨IntKind.i64.wrap ((gets 4 ((rows.getD 2 []).length / 8 * 2) (rows.getD 2 [])).getD (j * 2) 0), IntKind.i64.wrap ((gets 4 ((rows.getD 2 []).length / 8 * 2) (rows.getD 2 [])).getD (j * 2 + 1) 0)⟩ : S51) = _
  rw [gets_at _ _ _ _ (by omega), gets_at _ _ _ _ (by omega), show j * 2 * 4 = 8 * j by omega, show (j * 2 + 1) * 4 = 8 * j + 4 by omega]
  rw [i64_small (le4_small (fun x hx => hb x (List.mem_of_mem_drop hx))), i64_small (le4_small (fun x hx => hb x (List.mem_of_mem_drop hx)))]
theorem rget_l0 (rows : List (List Int)) (h3 : rows.length = 3) (hb : ∀ r ∈ rows, ∀ x ∈ r, 0 ≤ x ∧ x ≤ 255) (h0 : (rows.getD 0 []).length = 8) (h1 : (rows.getD 1 []).length = 8) (hm : (rows.getD 2 []).length % 8 = 0) (h2l : (rows.getD 2 []).length ≤ 8000) (bu ma : Int) :
    ∀ (d j : Nat), (rows.getD 2 []).length / 8 - j = d → j ≤ (rows.getD 2 []).length / 8 →
    Ev (fun k => paternosterref16_Get.l0 k (rows.map strOfNums) ((8 * j : Nat) : Int) 0 0 0 bu ma 0 (((gPs rows).take j).map to91)) (if PChk.chkB bu ma 0 (gPs rows) then (bu, ma, 0, (gPs rows).map to91, gSeq rows, 0) else (0, 0, 0, [], 0, 11)) := by
  have hmem : ∀ i, i < 3 → ∀ x ∈ rows.getD i [], 0 ≤ x ∧ x ≤ 255 := fun i hi x hx => by
    rw [List.getD_eq_getElem?_getD, List.getElem?_eq_getElem (by omega)] at hx
    exact hb _ (List.getElem_mem _) x hx
  have hgl : (gPs rows).length = (rows.getD 2 []).length / 8 := by unfold gPs; rw [List.length_map, List.length_range]
  have r2 : rdOf ByteArray.empty (rows.map strOfNums) 2 = strOfNums (rows.getD 2 []) := rdRow rows 2 (by omega)
  have r0 : rdOf ByteArray.empty (rows.map strOfNums) 0 = strOfNums (rows.getD 0 []) := rdRow rows 0 (by omega)
  intro d
  induction d with
  | zero =>
    intro j hd hj
    obtain rfl : j = (rows.getD 2 []).length / 8 := by omega
    refine Ev.succ ?_
    simp only [paternosterref16_Get.l0]
    rw [r2, strOfNums_size]
    refine Ev.yes1 (by rw [List.length_map]; omega) (Ev.no (by omega) ?_)
    rw [← hgl, List.take_length]
    refine Ev.bind (rchk_ev bu ma 0 (gPs rows) (by omega)) ?_
    cases hc : PChk.chkB bu ma 0 (gPs rows) with
    | false => exact Ev.no (by decide) (Ev.now _)
    | true =>
      refine Ev.yes rfl (Ev.yes1 (by rw [List.length_map]; omega) ?_)
      rw [r0]
      refine Ev.bind (rnum_ev 8 (by decide) (by decide) (rows.getD 0 []) (by omega) (hmem 0 (by omega))) ?_
      rw [show gSeq rows = leNum ((rows.getD 0 []).take 8) by
        unfold gSeq
        show (gets 8 1 (rows.getD 0 [])).getD 0 0 = _
        rw [gets_at _ _ _ _ (by decide), Nat.zero_mul, List.drop_zero]]
      exact Ev.now _
  | succ d ih =>
    intro j hd hj
    have hP := gP_is (rows := rows) (j := j) (by omega) (hmem 2 (by omega))
    refine Ev.succ ?_
    simp only [paternosterref16_Get.l0]
    have e4 : wrap64 (((8 * j : Nat) : Int) + 4) = ((8 * j + 4 : Nat) : Int) := by rw [w64 _ (by omega)]; rfl
    have e8 : wrap64 (((8 * j : Nat) : Int) + 8) = ((8 * (j + 1) : Nat) : Int) := by rw [w64 _ (by omega)]; omega
    rw [r2, strOfNums_size, e4, e8, Int.toNat_natCast, Int.toNat_natCast, show (rows.getD 2 []).length = (strOfNums (rows.getD 2 [])).size from (strOfNums_size _).symm, str_drop _ _ (by omega), str_drop _ _ (by omega), strOfNums_size]
    refine Ev.yes1 (by rw [List.length_map]; omega) (Ev.yes (by omega) (Ev.yes1 (by omega) (Ev.yes1 (by omega) ?_)))
    refine Ev.bind (rnum_ev 4 (by decide) (by decide) _ (by rw [List.length_drop]; omega) (fun x hx => hmem 2 (by omega) x (List.mem_of_mem_drop hx))) ?_
    refine Ev.yes1 (by omega) (Ev.yes1 (by omega) ?_)
    refine Ev.bind (rnum_ev 4 (by decide) (by decide) _ (by rw [List.length_drop]; omega) (fun x hx => hmem 2 (by omega) x (List.mem_of_mem_drop hx))) ?_
    refine Ev.yes1 (by rw [List.length_map, List.length_take]; omega) ?_
    have hgj : (gPs rows)[j]? = some (gP rows j) := by unfold gPs; rw [List.getElem?_map, List.getElem?_range (by omega)]; rfl
    have e : (((gPs rows).take j).map to91 ++ [(⟨wrap64 (leNum (((rows.getD 2 []).drop (8 * j)).take 4)), wrap64 (leNum (((rows.getD 2 []).drop (8 * j + 4)).take 4))⟩ : S91)]) = ((gPs rows).take (j + 1)).map to91 := by
      rw [List.take_add_one (l := gPs rows) (i := j), hgj, List.map_append, hP]
      rfl
    rw [e]
    exact ih (j + 1) (by omega) (by omega)
theorem rget_ev {b : List Int} (hB : Bytes b) : Ev (fun k => paternosterref16_Get.f k (strOfNums b)) ((jget b).bud, (jget b).mar, 0, (jget b).ps.map to91, (jget b).seq, (jget b).err) := by
  have hb := hB.2
  have hl := hB.1
  obtain ⟨ho1, ho2⟩ := openF_sub b
  have hob : ∀ x ∈ (openF b).1, 0 ≤ x ∧ x ≤ 255 := fun x hx => hb x (ho2 x hx)
  unfold paternosterref16_Get.f
  refine Ev.bind (ropen_ev hb (by omega)) ?_
  dsimp only
  unfold jget jgot
  cases hi : (openF b).2 with
  | false => exact Ev.no (by decide) (Ev.now _)
  | true =>
    refine Ev.yes rfl ?_
    rw [if_neg (by decide)]
    refine Ev.bind (rpart_ev hob (by omega)) ?_
    cases hq : PAll.partsF (openF b).1.length (openF b).1 with
    | none =>
      dsimp only [refRes, Option.getD_none, Option.isSome_none]
      exact Ev.no (by decide) (Ev.now _)
    | some rows =>
      dsimp only [refRes, Option.getD_some, Option.isSome_some]
      simp only [List.nil_append, if_true, ne_eq, not_true_eq_false, if_false]
      have hrb : ∀ r ∈ rows, ∀ x ∈ r, 0 ≤ x ∧ x ≤ 255 := fun r hr x hx => hob x ((parts_sub _ _ _ hq r hr).2 x hx)
      have hrl : ∀ r ∈ rows, r.length ≤ 8000 := fun r hr => Nat.le_trans (parts_sub _ _ _ hq r hr).1 (by omega)
      have bad : formB rows = false → ∀ F : Nat → Option (Int × Int × Int × List S91 × Int × Int), Ev F (0, 0, 0, [], 0, 11) → Ev F ((if gOK rows = true then (⟨gBud rows, gMar rows, gPs rows, gSeq rows, 0⟩ : JG) else ⟨0, 0, [], 0, 11⟩).bud, (if gOK rows = true then (⟨gBud rows, gMar rows, gPs rows, gSeq rows, 0⟩ : JG) else ⟨0, 0, [], 0, 11⟩).mar, 0, (if gOK rows = true then (⟨gBud rows, gMar rows, gPs rows, gSeq rows, 0⟩ : JG) else ⟨0, 0, [], 0, 11⟩).ps.map to91, (if gOK rows = true then (⟨gBud rows, gMar rows, gPs rows, gSeq rows, 0⟩ : JG) else ⟨0, 0, [], 0, 11⟩).seq, (if gOK rows = true then (⟨gBud rows, gMar rows, gPs rows, gSeq rows, 0⟩ : JG) else ⟨0, 0, [], 0, 11⟩).err) := by
        intro hf F hF
        rw [if_neg (by unfold gOK; rw [hf]; simp)]
        exact hF
      have j0t : Ev (fun k => paternosterref16_Get.j0 k (rows.map strOfNums) true 0 0 0) (0, 0, 0, [], 0, 11) := by
        refine Ev.succ ?_
        simp only [paternosterref16_Get.j0, if_true]
        exact Ev.now _
      by_cases h3 : ¬ rows.length = 3
      · exact bad (by unfold formB; simp [h3]) _ (Ev.no (by rw [List.length_map]; omega) j0t)
      replace h3 := Decidable.not_not.1 h3
      refine Ev.yes (by rw [List.length_map]; omega) (Ev.yes1 (by rw [List.length_map]; omega) ?_)
      have e0 : rdOf ByteArray.empty (rows.map strOfNums) 0 = strOfNums (rows.getD 0 []) := rdRow rows 0 (by omega)
      have e1 : rdOf ByteArray.empty (rows.map strOfNums) 1 = strOfNums (rows.getD 1 []) := rdRow rows 1 (by omega)
      have e2 : rdOf ByteArray.empty (rows.map strOfNums) 2 = strOfNums (rows.getD 2 []) := rdRow rows 2 (by omega)
      simp only [e0, e1, e2, strOfNums_size]
      by_cases h0 : ¬ (rows.getD 0 []).length = 8
      · exact bad (by unfold formB; simp only [h0, decide_false, Bool.false_and, Bool.and_false]) _ (Ev.no (by omega) j0t)
      replace h0 := Decidable.not_not.1 h0
      refine Ev.yes (by omega) (Ev.yes1 (by rw [List.length_map]; omega) ?_)
      by_cases h1 : ¬ (rows.getD 1 []).length = 8
      · exact bad (by unfold formB; simp only [h1, decide_false, Bool.false_and, Bool.and_false]) _ (Ev.no (by omega) j0t)
      replace h1 := Decidable.not_not.1 h1
      refine Ev.yes (by omega) (Ev.yes1 (by rw [List.length_map]; omega) ?_)
      by_cases hm : ¬ (rows.getD 2 []).length % 8 = 0
      · refine bad (by unfold formB; simp only [hm, decide_false, Bool.false_and, Bool.and_false]) _ ?_
        rw [show ((((rows.getD 2 []).length : Int) % 8) != 0) = true by rw [bne_iff_ne]; omega]
        exact j0t
      replace hm := Decidable.not_not.1 hm
      rw [show ((((rows.getD 2 []).length : Int) % 8) != 0) = false by rw [bne_eq_false_iff_eq]; omega]
      have hmem : ∀ i, i < 3 → rows.getD i [] ∈ rows := fun i hi => by
        rw [List.getD_eq_getElem?_getD, List.getElem?_eq_getElem (by omega)]
        exact List.getElem_mem _
      have hf : formB rows = true := by unfold formB; simp only [h3, h0, h1, hm, decide_true, Bool.and_true]
      refine Ev.succ ?_
      simp only [paternosterref16_Get.j0]
      rw [show rdOf ByteArray.empty (rows.map strOfNums) 1 = strOfNums (rows.getD 1 []) from rdRow rows 1 (by omega), strOfNums_size, show (rows.getD 1 []).length = (strOfNums (rows.getD 1 [])).size from (strOfNums_size _).symm, str_drop _ 4 (by omega), strOfNums_size]
      refine Ev.no (by decide) (Ev.yes1 (by rw [List.length_map]; omega) ?_)
      refine Ev.bind (rnum_ev 4 (by decide) (by decide) _ (by omega) (hrb _ (hmem 1 (by omega)))) ?_
      refine Ev.yes1 (by omega) ?_
      refine Ev.bind (rnum_ev 4 (by decide) (by decide) _ (by rw [List.length_drop]; omega) (fun x hx => hrb _ (hmem 1 (by omega)) x (List.mem_of_mem_drop hx))) ?_
      have hbud : gBud rows = wrap64 (leNum ((rows.getD 1 []).take 4)) := by
        unfold gBud
        show IntKind.i64.wrap ((gets 4 2 (rows.getD 1 [])).getD 0 0) = _
        rw [gets_at _ _ _ _ (by decide), Nat.zero_mul, List.drop_zero, i64_small (le4_small (hrb _ (hmem 1 (by omega))))]
      have hmar : gMar rows = wrap64 (leNum (((rows.getD 1 []).drop 4).take 4)) := by
        unfold gMar
        show IntKind.i64.wrap ((gets 4 2 (rows.getD 1 [])).getD 1 0) = _
        rw [gets_at _ _ _ _ (by decide), Nat.one_mul, i64_small (le4_small (fun x hx => hrb _ (hmem 1 (by omega)) x (List.mem_of_mem_drop hx)))]
      rw [← hbud, ← hmar]
      have h := rget_l0 rows h3 hrb h0 h1 hm (hrl _ (hmem 2 (by omega))) (gBud rows) (gMar rows) ((rows.getD 2 []).length / 8) 0 rfl (Nat.zero_le _)
      have hok : gOK rows = PChk.chkB (gBud rows) (gMar rows) 0 (gPs rows) := by unfold gOK; rw [hf, Bool.true_and]
      cases hc : PChk.chkB (gBud rows) (gMar rows) 0 (gPs rows) with
      | false =>
        rw [hc] at h
        simp only [hok, hc, Bool.false_eq_true, if_false]
        exact h
      | true =>
        rw [hc] at h
        simp only [hok, hc, if_true]
        exact h
end Go.Proofs.YtbcijmpkmmcdeaaDoor.SF
end
section
namespace Go.Proofs.YtbcijmpkmmcdeaaDoor.SF
open Go.RowKit Go.Sx Go.Proofs.YtbcijmpkmmcdeaaDoor.PAll Go.Proofs.YtbcijmpkmmcdeaaDoorW.PrintWords Go.Proofs.YtbcijmpkmmcdeaaDoorW.PrintLast Go.Proofs.YtbcijmpkmmcdeaaDoorW.PrintMore
set_option linter.unusedVariables false
set_option linter.unusedSimpArgs false
set_option maxRecDepth 100000
theorem u64_wf {x : Int} (h : (Lit.int .u64 x).wf = true) : 0 ≤ x ∧ x < 18446744073709551616 := by
  have : 0 ≤ x ∧ x ≤ 18446744073709551615 := by simpa [Lit.wf, IntKind.min, IntKind.max, IntKind.signed, IntKind.bits] using h
  omega
theorem same_of {base : Nat} (bu ma cr : Int) (qa qb : Gh) (l : List S51) (w : World) (ha : w.ownsRow base 91 2 (.slice qa.1 l.length qa.2) l.length ((l.map to91).flatMap pc91)) (hb : RowR w qb (l.map to91)) (hl : l.length ≤ 100000) :
    Calls Tryd.prog 18 #[.agg #[.int .i64 bu, .int .i64 ma, .int .i64 cr, .slice qa.1 l.length qa.2], .agg #[.int .i64 bu, .int .i64 ma, .int .i64 cr, .slice qb.1 l.length qb.2]] w fun e w' => e = .returned (.bool true) ∧ Below w.heap.size w w' := by
  have h := same_calls bu ma cr qa qb (l.map to91) w (own91 ha hl) hb (by rw [List.length_map]; exact hl)
  rw [List.length_map] at h
  exact h
end Go.Proofs.YtbcijmpkmmcdeaaDoor.SF
end
section
namespace Go.Proofs.YtbcijmpkmmcdeaaDoor.SF
open Go.RowKit Go.Sx Go.Proofs.YtbcijmpkmmcdeaaDoor.PAll Go.Proofs.YtbcijmpkmmcdeaaDoorW.PrintWords Go.Proofs.YtbcijmpkmmcdeaaDoorW.PrintLast Go.Proofs.YtbcijmpkmmcdeaaDoorW.PrintMore
set_option linter.unusedVariables false
set_option linter.unusedSimpArgs false
set_option maxRecDepth 100000
theorem RowR.of {w : World} {base : Nat} {ok : Nat → Prop} {v : Value} {l : List S91} (h : Kd.R k91 91 w base ok v l) : ∃ i : Gh, v = .slice i.1 l.length i.2 ∧ RowR w i l := by
  obtain ⟨A, c, e, h1, h2⟩ := Kd.R_reads h
  exact ⟨(A, c), e, h1, h2⟩
theorem RGetK {b : List Int} (hB : Bytes b) (w : World) : Calls Tryd.prog 24 #[.string (strOfNums b)] w fun e w' => ∃ i : Gh, RowR w' i ((jget b).ps.map to91) ∧ e = .returned (.tuple #[.agg #[.int .i64 (jget b).bud, .int .i64 (jget b).mar, .int .i64 0, .slice i.1 (jget b).ps.length i.2], .int .u64 (jget b).seq, .int .i64 (jget b).err]) ∧ Below w.heap.size w w' := by
  obtain ⟨K, hK⟩ := rget_ev hB
  refine (paternosterref16_Get.calls K _ _ _ _ _ _ _ w (hK K (Nat.le_refl _))).mono ?_
  rintro e w' ⟨v, rfl, hR, hb⟩
  obtain ⟨i, rfl, hr⟩ := RowR.of hR
  rw [List.length_map]
  exact ⟨i, hr, rfl, hb⟩
theorem jn_ps (l : List S51) : (l.map to91).map to51 = l := by
  rw [List.map_map]
  exact List.map_id'' (fun p => rfl) l
theorem rput_of (bu ma cr seq : Int) (q : Gh) (l : List S51) {base : Nat} (w : World) (h : w.ownsRow base 91 2 (.slice q.1 l.length q.2) l.length ((l.map to91).flatMap pc91)) (hl : l.length ≤ 1000) (hs : 0 ≤ seq ∧ seq < 18446744073709551616) :
    Calls Tryd.prog 26 #[.agg #[.int .i64 bu, .int .i64 ma, .int .i64 cr, .slice q.1 l.length q.2], .int .u64 seq] w fun e w' => e = .returned (.string (strOfNums (jput bu ma l seq))) ∧ Below w.heap.size w w' := by
  have hr := own91 h (by omega)
  have e : (l.map to91).length = l.length := List.length_map ..
  have := RPut_calls bu ma cr seq q.1 q.2 (l.map to91) w hr.2 hr.1 (by omega) hs
  rw [e, jn_ps] at this
  exact this
set_option maxHeartbeats 2000000 in
theorem puts_calls (bu ma cr seq : Int) (q qb : Gh) (l : List S51) (b : List Int) (w : World) (hr : RowP w q l) (hb : RowC w qb b) (hb0 : ∀ x ∈ b, 0 ≤ x ∧ x ≤ 255) (hseq : 0 ≤ seq ∧ seq < 18446744073709551616) (hh : Half w) :
    Calls Tryd.prog 6 #[.agg #[.int .i64 bu, .int .i64 ma, .int .i64 cr, .slice q.1 l.length q.2], .int .u64 seq, .slice qb.1 b.length qb.2] w fun e w' => e = .returned (.bool true) ∧ Below w.heap.size w w' := by
  refine enter (w0 := w) (hp := [old w]) (env := [(0, .agg #[.int .i64 bu, .int .i64 ma, .int .i64 cr, .slice q.1 l.length q.2]), (1, .int .u64 seq), (2, .slice qb.1 b.length qb.2)]) Tryd.func6 rfl 65 rfl (by simp) rfl (HeapOK.start _) ?_
  refine wc_seq ?_
  refine wc_region ?_
  refine wl_box rfl rfl rfl (by decide) rfl rfl (fun b1 => ?_)
  refine wl_q (q_assign rfl rfl) rfl rfl (by decide) ?_
  refine wl_nil ?_
  refine fq_then ?_
  refine wc_seq ?_
  refine wc_region ?_
  refine wl_q (q_call rfl En21 rfl (fun w1 hw1 => awake16_calls w1 (hh.keep (hw1.toBelow (by simp))))) rfl rfl (by decide) ?_
  refine wl_q (q_assign rfl rfl) rfl rfl (by decide) ?_
  refine wl_nil ?_
  refine fq_then ?_
  refine wc_seq ?_
  refine wc_seq ?_
  refine wc_region ?_
  refine wl_q (q_move rfl rfl) rfl rfl (by decide) ?_
  refine wl_q (q_not rfl rfl) rfl rfl (by decide) ?_
  refine wl_nil ?_
  refine fq_then ?_
  refine wc_false rfl ?_
  refine wc_skip ?_
  refine fq_then ?_
  refine wc_seq ?_
  refine wc_region ?_
  refine wl_q (q_loadA rfl rfl Mn32 Sz32 rfl (readsAll (i := 0) rfl)) rfl rfl (by decide) ?_
  refine wl_q (q_call rfl En22 rfl (fun w1 hw1 => few16_calls bu ma cr q l w1 (hr.below (hw1.toBelow (by simp))))) rfl rfl (by decide) ?_
  refine wl_q (q_assign rfl rfl) rfl rfl (by decide) ?_
  refine wl_nil ?_
  refine fq_then ?_
  refine wc_seq ?_
  refine wc_seq ?_
  refine wc_region ?_
  refine wl_q (q_move rfl rfl) rfl rfl (by decide) ?_
  refine wl_q (q_not rfl rfl) rfl rfl (by decide) ?_
  refine wl_q (q_move rfl rfl) rfl rfl (by decide) ?_
  refine wl_split (t := 22) rfl (fun h22 => ?_) (fun h22 => ?_)
  · skip
    have q22 := h22
    try simp only [decide_eq_true_eq, decide_eq_false_iff_not, beq_iff_eq, beq_eq_false_iff_ne, bne_iff_ne, ne_eq, bne_eq_false_iff_eq, Int.not_lt, Int.not_le] at q22
    refine wl_skip (b := true) rfl rfl rfl rfl (by decide) ?_
    refine wl_skip (b := true) rfl rfl rfl rfl (by decide) ?_
    refine wl_skip (b := true) rfl rfl rfl rfl (by decide) ?_
    refine wl_q (q_pick rfl rfl rfl) rfl rfl (by decide) ?_
    refine wl_nil ?_
    refine fq_then ?_
    refine wc_true rfl ?_
    refine wc_seq ?_
    refine wc_region ?_
    refine wl_q (q_assign rfl rfl) rfl rfl (by decide) ?_
    refine wl_nil ?_
    refine fq_then ?_
    refine wc_ret ?_
    refine fq_then_ret ?_
    refine fq_ret1 rfl rfl (fun w1 H => ?_)
    exact ⟨rfl, (by first | exact hB.next (H.toBelow (by simp)) | exact H.toBelow (by simp))⟩
  · skip
    have q22 := h22
    try simp only [decide_eq_true_eq, decide_eq_false_iff_not, beq_iff_eq, beq_eq_false_iff_ne, bne_iff_ne, ne_eq, bne_eq_false_iff_eq, Int.not_lt, Int.not_le] at q22
    refine wl_want (b := false) (q_move rfl rfl) rfl rfl rfl rfl (by decide) ?_
    refine wl_want (b := false) (q_len rfl rfl Tryd.underlying22) rfl rfl rfl rfl (by decide) ?_
    refine wl_want (b := false) (q_bin rfl rfl rfl rfl) rfl rfl rfl rfl (by decide) ?_
    refine wl_q (q_pick rfl rfl rfl) rfl rfl (by decide) ?_
    refine wl_nil ?_
    refine fq_then ?_
    refine wc_cond rfl (fun h26 => ?_) (fun h26 => ?_)
    · skip
      have q26 := h26
      try simp only [decide_eq_true_eq, decide_eq_false_iff_not, beq_iff_eq, beq_eq_false_iff_ne, bne_iff_ne, ne_eq, bne_eq_false_iff_eq, Int.not_lt, Int.not_le] at q26
      refine wc_seq ?_
      refine wc_region ?_
      refine wl_q (q_assign rfl rfl) rfl rfl (by decide) ?_
      refine wl_nil ?_
      refine fq_then ?_
      refine wc_ret ?_
      refine fq_then_ret ?_
      refine fq_ret1 rfl rfl (fun w1 H => ?_)
      exact ⟨rfl, (by first | exact hB.next (H.toBelow (by simp)) | exact H.toBelow (by simp))⟩
    · skip
      have q26 := h26
      try simp only [decide_eq_true_eq, decide_eq_false_iff_not, beq_iff_eq, beq_eq_false_iff_ne, bne_iff_ne, ne_eq, bne_eq_false_iff_eq, Int.not_lt, Int.not_le] at q26
      have hll : l.length ≤ 80 := by simpa using h22
      have hbl : b.length ≤ 800 := by simp at h26; omega
      have hBy : Bytes b := ⟨by omega, hb0⟩
      have hpl := jps_len hBy.1 (fun x hx => (hBy.2 x hx).1)
      refine wc_skip ?_
      refine fq_then ?_
      refine wc_seq ?_
      refine wc_region ?_
      refine wl_q (q_move rfl rfl) rfl rfl (by decide) ?_
      refine wl_callK (ι := Gh) (fun i => .tuple #[.agg #[.int .i64 (jget b).bud, .int .i64 (jget b).mar, .int .i64 0, .slice i.1 (jget b).ps.length i.2], .int .u64 (jget b).seq, .int .i64 (jget b).err]) (fun i w w' => RowP w' i (jget b).ps) rfl rfl rfl (by decide) En23 rfl (fun w1 hw1 => GetK hBy (hh.keep (hw1.toBelow (by simp))) (hb.below (hw1.toBelow (by simp)))) (fun g wa_ w_2 _ Hn_ _ hC_ => ?_)
      have hx_ := Hn_.toBelow (by simp)
      have fb_b1 : Blk w_2 b1 _ _ := Hn_.get (i := 0) rfl
      have hh := hh.keep hx_
      have hr := hr.below hx_
      have hb := hb.below hx_
      have hB := hx_
      have hP_g := hC_
      refine wl_q (q_move rfl rfl) rfl rfl (by decide) ?_
      refine wl_q (q_extract rfl rfl rfl) rfl rfl (by decide) ?_
      refine wl_q (q_extract rfl rfl rfl) rfl rfl (by decide) ?_
      refine wl_q (q_extract rfl rfl rfl) rfl rfl (by decide) ?_
      refine wl_alloc rfl rfl rfl (by decide) Zr32 (fun b3 => ?_)
      refine wl_store (i := 0) rfl rfl rfl rfl rfl rfl Sz32 rfl rfl (by simp) (by simp [Value.oneCell']) (by first | (simp only [List.take_succ_cons, List.take_zero, List.take_nil, List.drop_succ_cons, List.drop_zero, List.drop_nil, List.nil_append, List.cons_append, List.append_nil, List.length_cons, List.length_nil, Nat.reduceAdd, Nat.zero_add]; rfl) | rfl) (by first | (simp only [List.set_cons_zero, List.set_cons_succ]; rfl) | rfl) ?_
      refine wl_q (q_assign rfl rfl) rfl rfl (by decide) ?_
      refine wl_q (q_assign rfl rfl) rfl rfl (by decide) ?_
      refine wl_nil ?_
      refine fq_then ?_
      refine wc_seq ?_
      refine wc_region ?_
      refine wl_q (q_move rfl rfl) rfl rfl (by decide) ?_
      refine wl_q (q_bytesStr rfl rfl Tryd.underlying22 Tryd.underlying5 Tryd.underlying9 (fun w1 hw1 => (hb.below (hw1.toBelow (by simp))).2)) rfl rfl (by decide) ?_
      refine wl_callK (ι := Gh) (fun i => .tuple #[.agg #[.int .i64 (jget b).bud, .int .i64 (jget b).mar, .int .i64 0, .slice i.1 (jget b).ps.length i.2], .int .u64 (jget b).seq, .int .i64 (jget b).err]) (fun i w w' => RowR w' i ((jget b).ps.map to91)) rfl rfl rfl (by decide) En24 rfl (fun w1 hw1 => RGetK hBy w1) (fun rg wa_ w_4 _ Hn_ _ hC_ => ?_)
      have hx_ := Hn_.toBelow (by simp)
      have fb_b3 : Blk w_4 b3 _ _ := Hn_.get (i := 0) rfl
      have hh := hh.keep hx_
      have hr := hr.below hx_
      have hb := hb.below hx_
      have fb_b1 := fb_b1.below hx_
      have hP_g := hP_g.below hx_
      have hB := hB.next hx_
      have hQ_rg := hC_
      refine wl_q (q_move rfl rfl) rfl rfl (by decide) ?_
      refine wl_q (q_extract rfl rfl rfl) rfl rfl (by decide) ?_
      refine wl_q (q_extract rfl rfl rfl) rfl rfl (by decide) ?_
      refine wl_q (q_extract rfl rfl rfl) rfl rfl (by decide) ?_
      refine wl_alloc rfl rfl rfl (by decide) Zr42 (fun b5 => ?_)
      refine wl_store (i := 0) rfl rfl rfl rfl rfl rfl Sz42 rfl rfl (by simp) (by simp [Value.oneCell']) (by first | (simp only [List.take_succ_cons, List.take_zero, List.take_nil, List.drop_succ_cons, List.drop_zero, List.drop_nil, List.nil_append, List.cons_append, List.append_nil, List.length_cons, List.length_nil, Nat.reduceAdd, Nat.zero_add]; rfl) | rfl) (by first | (simp only [List.set_cons_zero, List.set_cons_succ]; rfl) | rfl) ?_
      refine wl_q (q_assign rfl rfl) rfl rfl (by decide) ?_
      refine wl_q (q_assign rfl rfl) rfl rfl (by decide) ?_
      refine wl_nil ?_
      refine fq_then ?_
      refine wc_seq ?_
      refine wc_any Fol (any_drawG (ι := Gh) 26 0 [(2, fun X => [Sx.Item.own 0 5 1 (.slice (X 2).1 (jput bu ma l seq).length (X 2).2) (jput bu ma l seq).length (nums .u8 (jput bu ma l seq))]), (5, fun X => [Sx.Item.own 0 91 2 (.slice (X 5).1 l.length (X 5).2) l.length ((l.map to91).flatMap pc91)]), (7, fun X => [Sx.Item.own 0 91 2 (.slice (X 5).1 l.length (X 5).2) l.length ((l.map to91).flatMap pc91)]), (11, fun X => [Sx.Item.own 0 91 2 (.slice (X 11).1 (jget b).ps.length (X 11).2) (jget b).ps.length (((jget b).ps.map to91).flatMap pc91)]), (13, fun X => [Sx.Item.own 0 91 2 (.slice (X 11).1 (jget b).ps.length (X 11).2) (jget b).ps.length (((jget b).ps.map to91).flatMap pc91)])] [⟨[], [], []⟩, ⟨[], [], []⟩, ⟨[], [], []⟩, ⟨[], [2], [2]⟩, ⟨[], [], []⟩, ⟨[], [], [2]⟩, ⟨[], [], []⟩, ⟨[5], [], [2, 5]⟩, ⟨[], [], [2, 5, 7]⟩, ⟨[], [], [2, 5, 7]⟩, ⟨[], [2, 7], [2, 5, 7]⟩, ⟨[], [], [2, 5, 7]⟩, ⟨[], [2, 7], [2, 5, 7]⟩, ⟨[11], [], [2, 5, 7, 11]⟩, ⟨[], [], [2, 5, 7, 11, 13]⟩, ⟨[], [], [2, 5, 7, 11, 13]⟩, ⟨[], [], [2, 5, 7, 11, 13]⟩, ⟨[], [], [2, 5, 7, 11, 13]⟩, ⟨[], [], [2, 5, 7, 11, 13]⟩, ⟨[], [], [2, 5, 7, 11, 13]⟩, ⟨[], [], [2, 5, 7, 11, 13]⟩, ⟨[], [], [2, 5, 7, 11, 13]⟩, ⟨[], [], [2, 5, 7, 11, 13]⟩, ⟨[], [], [2, 5, 7, 11, 13]⟩, ⟨[], [], [2, 5, 7, 11, 13]⟩, ⟨[], [], [2, 5, 7, 11, 13]⟩] (by kernel_rfl) (ChainG.yield [] [] (fun X => q_loadA rfl rfl Mn32 Sz32 rfl (reads_blkA (by simp) fb_b1)) rfl rfl (fun _ => rfl) (fun _ _ => rfl) (fun X Y h0 h => ⟨by first | rfl | simp only [h0], by first | rfl | simp only [h0]⟩) (ChainG.yield [] [] (fun X => q_move rfl rfl) rfl rfl (fun _ => rfl) (fun _ _ => rfl) (fun X Y h0 h => ⟨by first | rfl | simp only [h0], by first | rfl | simp only [h0]⟩) (ChainG.ope (fun (X : Nat → Gh) => .slice (X 2).1 (jput bu ma l seq).length (X 2).2) [] [] (fun X => oe_call rfl En25 rfl (fun R w1 hw1 => (Put_calls bu ma cr seq q.1 q.2 l w1 (hr.below (hw1.toBelow (by simp))).2 hr.1 (by omega) (hh.keep (hw1.toBelow (by simp)))).mono (fun e w' ⟨i, h1, h2⟩ => ⟨i, h1, hw1.lift1 h2⟩))) rfl rfl (fun X Y h0 h => ⟨by first | rfl | (show (.slice (X 2).1 (jput bu ma l seq).length (X 2).2 : Value) = .slice (Y 2).1 (jput bu ma l seq).length (Y 2).2; simp only [h0]), by first | rfl | (show ([Sx.Item.own 0 5 1 (.slice (X 2).1 (jput bu ma l seq).length (X 2).2) (jput bu ma l seq).length (nums .u8 (jput bu ma l seq))] : List Sx.Item) = [Sx.Item.own 0 5 1 (.slice (Y 2).1 (jput bu ma l seq).length (Y 2).2) (jput bu ma l seq).length (nums .u8 (jput bu ma l seq))]; simp only [h0])⟩) (ChainG.yield [2] [2] (fun X => q_bytesStr rfl rfl Tryd.underlying22 Tryd.underlying5 Tryd.underlying9 (fun w1 hw1 => (rowC_of_own (hw1.get (i := 0) rfl) rfl (jput_small (by omega))).2)) rfl rfl (fun _ => rfl) (fun _ _ => rfl) (fun X Y h0 h => ⟨by first | rfl | simp only [h0, h 2 (by decide)], by first | rfl | simp only [h0, h 2 (by decide)]⟩) (ChainG.yield [] [] (fun X => q_loadA rfl rfl Mn32 Sz32 rfl (reads_blkA (by simp) fb_b1)) rfl rfl (fun _ => rfl) (fun _ _ => rfl) (fun X Y h0 h => ⟨by first | rfl | simp only [h0], by first | rfl | simp only [h0]⟩) (ChainG.ope (fun (X : Nat → Gh) => .agg #[.int .i64 bu, .int .i64 ma, .int .i64 cr, .slice (X 5).1 l.length (X 5).2]) [] [2] (fun X => oe_call rfl En27 rfl (fun R w1 hw1 => (of16_calls bu ma cr q l w1 (hr.below (hw1.toBelow (by simp))) (by omega)).mono (fun e w' ⟨i, h1, h2⟩ => ⟨i, h1, hw1.lift1 h2⟩))) rfl rfl (fun X Y h0 h => ⟨by first | rfl | (show (.agg #[.int .i64 bu, .int .i64 ma, .int .i64 cr, .slice (X 5).1 l.length (X 5).2] : Value) = .agg #[.int .i64 bu, .int .i64 ma, .int .i64 cr, .slice (Y 5).1 l.length (Y 5).2]; simp only [h0, h 2 (by decide)]), by first | rfl | (show ([Sx.Item.own 0 91 2 (.slice (X 5).1 l.length (X 5).2) l.length ((l.map to91).flatMap pc91)] : List Sx.Item) = [Sx.Item.own 0 91 2 (.slice (Y 5).1 l.length (Y 5).2) l.length ((l.map to91).flatMap pc91)]; simp only [h0, h 2 (by decide)])⟩) (ChainG.yield [] [] (fun X => q_move rfl rfl) rfl rfl (fun _ => rfl) (fun _ _ => rfl) (fun X Y h0 h => ⟨by first | rfl | simp only [h0], by first | rfl | simp only [h0]⟩) (ChainG.ope (fun (X : Nat → Gh) => .string (strOfNums (jput bu ma l seq))) [5] [2, 5] (fun X => oe_call rfl En26 rfl (fun R w1 hw1 => (rput_of bu ma cr seq (X 5) l w1 (hw1.get (i := 0) rfl) (by omega) hseq).mono (fun e w' ⟨h1, h2⟩ => ⟨(none, 0), h1, hw1.below h2⟩))) rfl rfl (fun X Y h0 h => ⟨by first | rfl | (show (.string (strOfNums (jput bu ma l seq)) : Value) = .string (strOfNums (jput bu ma l seq)); simp only [h0, h 2 (by decide), h 5 (by decide)]), by first | rfl | (show ([Sx.Item.own 0 91 2 (.slice (X 5).1 l.length (X 5).2) l.length ((l.map to91).flatMap pc91)] : List Sx.Item) = [Sx.Item.own 0 91 2 (.slice (Y 5).1 l.length (Y 5).2) l.length ((l.map to91).flatMap pc91)]; simp only [h0, h 2 (by decide), h 5 (by decide)])⟩) (ChainG.yield [] [2, 5, 7] (fun X => q_eqlStr (c := true) rfl (.inl ⟨rfl, by simp⟩) rfl rfl (fun w => rfl)) rfl rfl (fun _ => rfl) (fun _ _ => rfl) (fun X Y h0 h => ⟨by first | rfl | simp only [h0, h 2 (by decide), h 5 (by decide), h 7 (by decide)], by first | rfl | simp only [h0, h 2 (by decide), h 5 (by decide), h 7 (by decide)]⟩) (ChainG.yield [] [2, 5, 7] (fun X => q_move rfl rfl) rfl rfl (fun _ => rfl) (fun _ _ => rfl) (fun X Y h0 h => ⟨by first | rfl | simp only [h0, h 2 (by decide), h 5 (by decide), h 7 (by decide)], by first | rfl | simp only [h0, h 2 (by decide), h 5 (by decide), h 7 (by decide)]⟩) (ChainG.wantq (b := true) [2, 7] [2, 5, 7] (fun X => q_loadA rfl rfl Mn32 Sz32 rfl (reads_blkA (by simp) fb_b3)) rfl rfl (fun _ => rfl) rfl (fun _ => rfl) (fun _ _ => rfl) (fun X Y h0 h => ⟨by first | rfl | simp only [h0, h 2 (by decide), h 5 (by decide), h 7 (by decide)], by first | rfl | simp only [h0, h 2 (by decide), h 5 (by decide), h 7 (by decide)]⟩) (ChainG.opew (b := true) (fun (X : Nat → Gh) => .agg #[.int .i64 (jget b).bud, .int .i64 (jget b).mar, .int .i64 0, .slice (X 11).1 (jget b).ps.length (X 11).2]) [] [2, 5, 7] (fun X => oe_call rfl En27 rfl (fun R w1 hw1 => (of16_calls (jget b).bud (jget b).mar 0 g (jget b).ps w1 (hP_g.below (hw1.toBelow (by simp))) (by omega)).mono (fun e w' ⟨i, h1, h2⟩ => ⟨i, h1, hw1.lift1 h2⟩))) rfl rfl (fun _ => rfl) rfl (fun X Y h0 h => ⟨by first | rfl | (show (.agg #[.int .i64 (jget b).bud, .int .i64 (jget b).mar, .int .i64 0, .slice (X 11).1 (jget b).ps.length (X 11).2] : Value) = .agg #[.int .i64 (jget b).bud, .int .i64 (jget b).mar, .int .i64 0, .slice (Y 11).1 (jget b).ps.length (Y 11).2]; simp only [h0, h 2 (by decide), h 5 (by decide), h 7 (by decide)]), by first | rfl | (show ([Sx.Item.own 0 91 2 (.slice (X 11).1 (jget b).ps.length (X 11).2) (jget b).ps.length (((jget b).ps.map to91).flatMap pc91)] : List Sx.Item) = [Sx.Item.own 0 91 2 (.slice (Y 11).1 (jget b).ps.length (Y 11).2) (jget b).ps.length (((jget b).ps.map to91).flatMap pc91)]; simp only [h0, h 2 (by decide), h 5 (by decide), h 7 (by decide)])⟩) (ChainG.wantq (b := true) [2, 7] [2, 5, 7] (fun X => q_loadA rfl rfl Mn42 Sz42 rfl (readsAll (i := 2) rfl)) rfl rfl (fun _ => rfl) rfl (fun _ => rfl) (fun _ _ => rfl) (fun X Y h0 h => ⟨by first | rfl | simp only [h0, h 2 (by decide), h 5 (by decide), h 7 (by decide)], by first | rfl | simp only [h0, h 2 (by decide), h 5 (by decide), h 7 (by decide)]⟩) (ChainG.opew (b := true) (fun (X : Nat → Gh) => .bool true) [11] [2, 5, 7, 11] (fun X => oe_call rfl En18 rfl (fun R w1 hw1 => (same_of (jget b).bud (jget b).mar 0 (X 11) rg (jget b).ps w1 (hw1.get (i := 0) rfl) (hQ_rg.below (hw1.toBelow (by simp))) (by omega)).mono (fun e w' ⟨h1, h2⟩ => ⟨(none, 0), h1, hw1.below h2⟩))) rfl rfl (fun _ => rfl) rfl (fun X Y h0 h => ⟨by first | rfl | (show (.bool true : Value) = .bool true; simp only [h0, h 2 (by decide), h 5 (by decide), h 7 (by decide), h 11 (by decide)]), by first | rfl | (show ([Sx.Item.own 0 91 2 (.slice (X 11).1 (jget b).ps.length (X 11).2) (jget b).ps.length (((jget b).ps.map to91).flatMap pc91)] : List Sx.Item) = [Sx.Item.own 0 91 2 (.slice (Y 11).1 (jget b).ps.length (Y 11).2) (jget b).ps.length (((jget b).ps.map to91).flatMap pc91)]; simp only [h0, h 2 (by decide), h 5 (by decide), h 7 (by decide), h 11 (by decide)])⟩) (ChainG.yield [] [2, 5, 7, 11, 13] (fun X => q_pick rfl rfl rfl) rfl rfl (fun _ => rfl) (fun _ _ => rfl) (fun X Y h0 h => ⟨by first | rfl | simp only [h0, h 2 (by decide), h 5 (by decide), h 7 (by decide), h 11 (by decide), h 13 (by decide)], by first | rfl | simp only [h0, h 2 (by decide), h 5 (by decide), h 7 (by decide), h 11 (by decide), h 13 (by decide)]⟩) (ChainG.yield [] [2, 5, 7, 11, 13] (fun X => q_move rfl rfl) rfl rfl (fun _ => rfl) (fun _ _ => rfl) (fun X Y h0 h => ⟨by first | rfl | simp only [h0, h 2 (by decide), h 5 (by decide), h 7 (by decide), h 11 (by decide), h 13 (by decide)], by first | rfl | simp only [h0, h 2 (by decide), h 5 (by decide), h 7 (by decide), h 11 (by decide), h 13 (by decide)]⟩) (ChainG.wantq (b := true) [] [2, 5, 7, 11, 13] (fun X => q_move rfl rfl) rfl rfl (fun _ => rfl) rfl (fun _ => rfl) (fun _ _ => rfl) (fun X Y h0 h => ⟨by first | rfl | simp only [h0, h 2 (by decide), h 5 (by decide), h 7 (by decide), h 11 (by decide), h 13 (by decide)], by first | rfl | simp only [h0, h 2 (by decide), h 5 (by decide), h 7 (by decide), h 11 (by decide), h 13 (by decide)]⟩) (ChainG.wantq (b := true) [] [2, 5, 7, 11, 13] (fun X => q_move rfl rfl) rfl rfl (fun _ => rfl) rfl (fun _ => rfl) (fun _ _ => rfl) (fun X Y h0 h => ⟨by first | rfl | simp only [h0, h 2 (by decide), h 5 (by decide), h 7 (by decide), h 11 (by decide), h 13 (by decide)], by first | rfl | simp only [h0, h 2 (by decide), h 5 (by decide), h 7 (by decide), h 11 (by decide), h 13 (by decide)]⟩) (ChainG.wantq (b := true) [] [2, 5, 7, 11, 13] (fun X => OpQ.to (q_bin rfl rfl rfl rfl) (congrArg Value.bool (show ((jget b).seq == (jget b).seq) = true by simp))) rfl rfl (fun _ => rfl) rfl (fun _ => rfl) (fun _ _ => rfl) (fun X Y h0 h => ⟨by first | rfl | simp only [h0, h 2 (by decide), h 5 (by decide), h 7 (by decide), h 11 (by decide), h 13 (by decide)], by first | rfl | simp only [h0, h 2 (by decide), h 5 (by decide), h 7 (by decide), h 11 (by decide), h 13 (by decide)]⟩) (ChainG.yield [] [2, 5, 7, 11, 13] (fun X => q_pick rfl rfl rfl) rfl rfl (fun _ => rfl) (fun _ _ => rfl) (fun X Y h0 h => ⟨by first | rfl | simp only [h0, h 2 (by decide), h 5 (by decide), h 7 (by decide), h 11 (by decide), h 13 (by decide)], by first | rfl | simp only [h0, h 2 (by decide), h 5 (by decide), h 7 (by decide), h 11 (by decide), h 13 (by decide)]⟩) (ChainG.yield [] [2, 5, 7, 11, 13] (fun X => q_move rfl rfl) rfl rfl (fun _ => rfl) (fun _ _ => rfl) (fun X Y h0 h => ⟨by first | rfl | simp only [h0, h 2 (by decide), h 5 (by decide), h 7 (by decide), h 11 (by decide), h 13 (by decide)], by first | rfl | simp only [h0, h 2 (by decide), h 5 (by decide), h 7 (by decide), h 11 (by decide), h 13 (by decide)]⟩) (ChainG.wantq (b := true) [] [2, 5, 7, 11, 13] (fun X => q_move rfl rfl) rfl rfl (fun _ => rfl) rfl (fun _ => rfl) (fun _ _ => rfl) (fun X Y h0 h => ⟨by first | rfl | simp only [h0, h 2 (by decide), h 5 (by decide), h 7 (by decide), h 11 (by decide), h 13 (by decide)], by first | rfl | simp only [h0, h 2 (by decide), h 5 (by decide), h 7 (by decide), h 11 (by decide), h 13 (by decide)]⟩) (ChainG.wantq (b := true) [] [2, 5, 7, 11, 13] (fun X => q_move rfl rfl) rfl rfl (fun _ => rfl) rfl (fun _ => rfl) (fun _ _ => rfl) (fun X Y h0 h => ⟨by first | rfl | simp only [h0, h 2 (by decide), h 5 (by decide), h 7 (by decide), h 11 (by decide), h 13 (by decide)], by first | rfl | simp only [h0, h 2 (by decide), h 5 (by decide), h 7 (by decide), h 11 (by decide), h 13 (by decide)]⟩) (ChainG.wantq (b := true) [] [2, 5, 7, 11, 13] (fun X => OpQ.to (q_bin rfl rfl rfl rfl) (congrArg Value.bool (show ((jget b).err == (jget b).err) = true by simp))) rfl rfl (fun _ => rfl) rfl (fun _ => rfl) (fun _ _ => rfl) (fun X Y h0 h => ⟨by first | rfl | simp only [h0, h 2 (by decide), h 5 (by decide), h 7 (by decide), h 11 (by decide), h 13 (by decide)], by first | rfl | simp only [h0, h 2 (by decide), h 5 (by decide), h 7 (by decide), h 11 (by decide), h 13 (by decide)]⟩) (ChainG.yield [] [2, 5, 7, 11, 13] (fun X => q_pick rfl rfl rfl) rfl rfl (fun _ => rfl) (fun _ _ => rfl) (fun X Y h0 h => ⟨by first | rfl | simp only [h0, h 2 (by decide), h 5 (by decide), h 7 (by decide), h 11 (by decide), h 13 (by decide)], by first | rfl | simp only [h0, h 2 (by decide), h 5 (by decide), h 7 (by decide), h 11 (by decide), h 13 (by decide)]⟩) (ChainG.yield [] [2, 5, 7, 11, 13] (fun X => q_assign rfl rfl) rfl rfl (fun _ => rfl) (fun _ _ => rfl) (fun X Y h0 h => ⟨by first | rfl | simp only [h0, h 2 (by decide), h 5 (by decide), h 7 (by decide), h 11 (by decide), h 13 (by decide)], by first | rfl | simp only [h0, h 2 (by decide), h 5 (by decide), h 7 (by decide), h 11 (by decide), h 13 (by decide)]⟩) (ChainG.nil _ _))))))))))))))))))))))))))) rfl rfl (fun X => [_, _, _, _, _]) (fun _ => rfl) (fun X => ?_))
      generalize X 2 = pu2
      generalize X 5 = og5
      generalize X 11 = og11
      refine wl_nil ?_
      refine fq_then ?_
      refine wc_ret ?_
      refine fq_ret1 rfl rfl (fun w1 H => ?_)
      exact ⟨rfl, (by first | exact hB.next (H.toBelow (by simp)) | exact H.toBelow (by simp))⟩
end Go.Proofs.YtbcijmpkmmcdeaaDoor.SF
end
section
namespace Go.Proofs.YtbcijmpkmmcdeaaDoor.Op
open Go.RowKit Go.Proofs.YtbcijmpkmmcdeaaDoorW.PrintWords
open Go.ChangeShapes Go.WideShapes
structure Opens {α : Type} (K : Kd α) (P : Program) (t : TypeId) (ok : α → Prop) : Prop where
  sz : P.cellsOf t = K.sz
  op : ∀ {H : Type} {enc : TypeId × Value → H} {w : World} {base : Nat} {spare : Nat → Bool} {held : Bool} {fuel : Nat} {cs : List Value} {x : DataW H × List MemPlace},
    DataW.trod enc P w base spare held fuel t cs = some x → ∃ a, K.K w a cs ∧ ok a
theorem Opens.int {P : Program} {t : TypeId} (k : IntKind) (ht : P.underlying t = some (.int k)) (hc : P.cellsOf t = 1) : Opens (Kd.int k) P t (fun n => (Lit.int k n).wf = true) :=
  ⟨hc, fun h => by obtain ⟨n, rfl, _, hw⟩ := DataW.trod_int ht h; exact ⟨n, rfl, hw⟩⟩
theorem Opens.bool {P : Program} {t : TypeId} (ht : P.underlying t = some .bool) (hc : P.cellsOf t = 1) : Opens Kd.bool P t (fun _ => True) :=
  ⟨hc, fun h => by obtain ⟨b, rfl, _⟩ := DataW.trod_bool ht h; exact ⟨b, rfl, trivial⟩⟩
theorem Opens.string {P : Program} {t : TypeId} (ht : P.underlying t = some .string) (hc : P.cellsOf t = 1) : Opens Kd.string P t (fun s => s.size ≤ maxLen) :=
  ⟨hc, fun h => by obtain ⟨s, rfl, _, hw⟩ := DataW.trod_string ht h; exact ⟨s, rfl, hw⟩⟩
theorem cells_at {w : World} {base : Nat} {a : Addr} {n : Nat} {cs : List Value} (h : w.cells? base a n = some cs) : cs.length = n ∧ ∀ i u, cs[i]? = some u → w.cell? (a.add i) = some u := by
  obtain ⟨_, hl, hc⟩ := World.cells?_some h
  refine ⟨hl, fun i u hu => ?_⟩
  have hi : i < n := by have := (List.getElem?_eq_some_iff.1 hu).1; omega
  rw [hc i hi, hu]
theorem Opens.slice {α : Type} {K : Kd α} {P : Program} {t e : TypeId} {ok : α → Prop} (ht : P.underlying t = some (.slice e)) (hc : P.cellsOf t = 1) (h : Opens K P e ok) :
    Opens (Kd.slice e K) P t (fun xs => xs.length ≤ maxLen ∧ ∀ x ∈ xs, ok x) := by
  refine ⟨hc, fun {H enc w base spare held fuel cs x} hx => ?_⟩
  rcases DataW.trod_slice ht hx with ⟨rfl, _⟩ | ⟨a, len, cap, elems, rest, n, _, rfl, _, _, hl, hm, hlen, hel, _, _⟩
  · exact ⟨[], ⟨none, 0, rfl, Nat.le_refl _, rfl, by simp, fun h0 => absurd h0 (by simp)⟩, by simp, by simp⟩
  · have each : ∀ i, i < len → ∃ a', ok a' ∧ ∃ cs, cs.length = K.sz ∧ K.K w a' cs ∧ ∀ j u, cs[j]? = some u → w.cell? (a.add (i * K.sz + j)) = some u := by
      intro i hi
      have h1 := hel i hi
      rw [List.getElem?_eq_getElem (by omega), Option.bind_eq_some_iff] at h1
      obtain ⟨cs', hcs, hy⟩ := h1
      obtain ⟨a', hk, ho⟩ := h.op hy
      obtain ⟨hlc, hcell⟩ := cells_at hcs
      refine ⟨a', ho, cs', by rw [hlc, h.sz], hk, fun j u hu => ?_⟩
      have := hcell j u hu
      rwa [h.sz, Addr.add_add] at this
    have pick : ∀ m, m ≤ len → ∃ xs : List α, xs.length = m ∧ (∀ x ∈ xs, ok x) ∧ ∀ i p, xs[i]? = some p → ∃ cs, cs.length = K.sz ∧ K.K w p cs ∧ ∀ j u, cs[j]? = some u → w.cell? (a.add (i * K.sz + j)) = some u := by
      intro m
      induction m with
      | zero => intro _; exact ⟨[], rfl, by simp, by simp⟩
      | succ m ih =>
        intro hm'
        obtain ⟨xs, hxl, hxo, hxc⟩ := ih (by omega)
        obtain ⟨a', ho, hcs⟩ := each m (by omega)
        refine ⟨xs ++ [a'], by simp [hxl], fun y hy => ?_, fun i p hp => ?_⟩
        · rcases List.mem_append.1 hy with hy | hy
          · exact hxo y hy
          · rw [List.mem_singleton.1 hy]; exact ho
        · by_cases hi : i < m
          · rw [List.getElem?_append_left (by omega)] at hp
            exact hxc i p hp
          · have : i = m := by
              have := (List.getElem?_eq_some_iff.1 hp).1
              simp [hxl] at this; omega
            subst this
            rw [List.getElem?_append_right (by omega), hxl] at hp
            simp at hp
            subst hp
            exact hcs
    obtain ⟨xs, hxl, hxo, hxc⟩ := pick len (Nat.le_refl _)
    refine ⟨xs, ⟨some a, cap, by rw [hxl], by omega, rfl, by unfold maxLen at hm; omega, fun _ => ⟨a, rfl, hxc⟩⟩, by omega, hxo⟩
end Go.Proofs.YtbcijmpkmmcdeaaDoor.Op
end
section
namespace Go.Proofs.YtbcijmpkmmcdeaaDoor.PAll
open Go.RowKit Go.Proofs.YtbcijmpkmmcdeaaDoorW.PrintWords Go.Proofs.YtbcijmpkmmcdeaaDoorW.PrintLast Go.Proofs.YtbcijmpkmmcdeaaDoorW.PrintMore
open Go.ChangeShapes Go.WideShapes
set_option linter.unusedVariables false
set_option linter.unusedSimpArgs false
set_option maxRecDepth 100000
theorem opens51 : Op.Opens k51 Tryd.prog 51 (fun _ => True) := by
  refine ⟨by kernel_rfl, fun {H enc w base spare held fuel cs x} hx => ?_⟩
  obtain ⟨y0, y1, n, _, hl, h0, h1⟩ := trod_struct2 Tryd.underlying51 hx
  have hc3 : Tryd.prog.cellsOf 3 = 1 := by kernel_rfl
  have hc51 : Tryd.prog.cellsOf 51 = 2 := by kernel_rfl
  rw [hc51] at hl
  match cs, hl with
  | [u, v], _ =>
    simp only [hc3, List.drop_zero, List.take_succ_cons, List.take_zero, List.drop_succ_cons] at h0 h1
    obtain ⟨a, ea, _, _⟩ := DataW.trod_int Tryd.underlying3 h0
    obtain ⟨b, eb, _, _⟩ := DataW.trod_int Tryd.underlying3 h1
    simp only [List.cons.injEq, and_true] at ea eb
    subst ea; subst eb
    exact ⟨⟨a, b⟩, ⟨_, _, rfl, rfl, rfl⟩, trivial⟩
theorem ledger_open {H : Type} {enc : TypeId × Value → H} {w : World} {base : Nat} {spare : Nat → Bool} {held : Bool} {fuel : Nat} {cs : List Value} {x : DataW H × List MemPlace} (h : DataW.trod enc Tryd.prog w base spare held fuel 32 cs = some x) :
    ∃ (b m cr : Int) (A : Option Addr) (c : Nat) (l : List S51), cs = [.int .i64 b, .int .i64 m, .int .i64 cr, .slice A l.length c] ∧ l.length ≤ c ∧ Kd.C k51 w A l.length l := by
  obtain ⟨xs, n, _, _, hl, hlen, hf⟩ := DataW.trod_struct Tryd.underlying32 h
  have hc3 : Tryd.prog.cellsOf 3 = 1 := by kernel_rfl
  have hc30 : Tryd.prog.cellsOf 30 = 1 := by kernel_rfl
  have hc32 : Tryd.prog.cellsOf 32 = 4 := by kernel_rfl
  rw [hc32] at hl
  match cs, hl, xs, hlen with
  | [u, v, y, z], _, [x0, x1, x2, x3], _ =>
    have f0 : DataW.trod enc Tryd.prog w base spare held n 3 (([u, v, y, z].drop 0).take (Tryd.prog.cellsOf 3)) = some x0 := hf 0 _ rfl
    have f1 : DataW.trod enc Tryd.prog w base spare held n 3 (([u, v, y, z].drop 1).take (Tryd.prog.cellsOf 3)) = some x1 := hf 1 _ rfl
    have f2 : DataW.trod enc Tryd.prog w base spare held n 3 (([u, v, y, z].drop 2).take (Tryd.prog.cellsOf 3)) = some x2 := hf 2 _ rfl
    have f3 : DataW.trod enc Tryd.prog w base spare held n 30 (([u, v, y, z].drop 3).take (Tryd.prog.cellsOf 30)) = some x3 := hf 3 _ rfl
    rw [hc3] at f0 f1 f2
    rw [hc30] at f3
    obtain ⟨a, ea, _, _⟩ := DataW.trod_int Tryd.underlying3 (show DataW.trod enc Tryd.prog w base spare held n 3 [u] = some x0 from f0)
    obtain ⟨b, eb, _, _⟩ := DataW.trod_int Tryd.underlying3 (show DataW.trod enc Tryd.prog w base spare held n 3 [v] = some x1 from f1)
    obtain ⟨c, ec, _, _⟩ := DataW.trod_int Tryd.underlying3 (show DataW.trod enc Tryd.prog w base spare held n 3 [y] = some x2 from f2)
    simp only [List.cons.injEq, and_true] at ea eb ec
    subst ea; subst eb; subst ec
    obtain ⟨l, ⟨A, cc, ez, hlc, hC⟩, _⟩ := (Op.Opens.slice (K := k51) Tryd.underlying30 hc30 opens51).op (show DataW.trod enc Tryd.prog w base spare held n 30 [z] = some x3 from f3)
    simp only [List.cons.injEq, and_true] at ez
    subst ez
    exact ⟨a, b, c, A, cc, l, rfl, hlc, hC⟩
end Go.Proofs.YtbcijmpkmmcdeaaDoor.PAll
end
section
namespace Go.Proofs.YtbcijmpkmmcdeaaDoor.Laid
open Go.ChangeShapes Go.WideShapes Go.ChangeAt Go.RowKit
open Go.Proofs.YtbcijmpkmmcdeaaDoor.PAll (Half halfL)
theorem half_no : Tryd.prog.globalNamed "paternoster/crc.half" = some 0 := by kernel_rfl
theorem half_type : (Tryd.prog.globals[0]?).map (·.type) = some 139 := by kernel_rfl
theorem cellsA : Tryd.prog.cellsOf 139 = 16 := by kernel_rfl
theorem cellsE : Tryd.prog.cellsOf 132 = 1 := by kernel_rfl
theorem int_of_trod {H : Type} {enc : TypeId × Value → H} {P : Program} {w : World} {base : Nat} {sp : Nat → Bool} {held : Bool} {fuel : Nat} {t : TypeId} {k : IntKind} {c : Value} {y : DataW H × List MemPlace}
    (ht : P.underlying t = some (.int k)) (h : DataW.trod enc P w base sp held fuel t [c] = some y) : ∃ n, c = .int k n ∧ y = (.lit (.int k n), []) := by
  cases fuel with
  | zero => simp [DataW.trod] at h
  | succ fuel =>
    cases c <;> simp [DataW.trod, ht] at h
    rename_i k' n
    obtain ⟨⟨rfl, _⟩, rfl⟩ := h
    exact ⟨n, rfl, rfl⟩
def cells : Array Value := (halfL.map (Value.int .u32)).toArray
theorem cells_of_laid {W : World} (h : laidMet Tryd.prog [("paternoster/crc.half", Rows.laid_paternoster_crc_half)] W) : W.var? Tryd.prog "paternoster/crc.half" = some cells := by
  obtain ⟨ps, ⟨g, t, cs, fuel, p, q, hg, ht, hvar, hd, _, _⟩, _⟩ := h
  obtain rfl := Option.some.inj (half_no.symm.trans hg)
  obtain rfl := Option.some.inj (half_type.symm.trans ht)
  rw [hvar]
  congr 1
  obtain ⟨l⟩ := cs
  cases fuel with
  | zero => simp [DataW.trod] at hd
  | succ fuel =>
    simp only [DataW.trod, Tryd.underlying139, cellsA, cellsE] at hd
    split at hd
    · rename_i hl
      obtain ⟨c0, c1, c2, c3, c4, c5, c6, c7, c8, c9, c10, c11, c12, c13, c14, c15, rfl⟩ : ∃ c0 c1 c2 c3 c4 c5 c6 c7 c8 c9 c10 c11 c12 c13 c14 c15, l = [c0, c1, c2, c3, c4, c5, c6, c7, c8, c9, c10, c11, c12, c13, c14, c15] := by
        match l, hl with
        | [a, b, c, d, e, f, g, h, i, j, k, l, m, n, o, p], _ => exact ⟨a, b, c, d, e, f, g, h, i, j, k, l, m, n, o, p, rfl⟩
      have e : List.range 16 = [0, 1, 2, 3, 4, 5, 6, 7, 8, 9, 10, 11, 12, 13, 14, 15] := rfl
      rw [e] at hd
      simp only [Option.map_eq_some_iff, List.mapM_cons, List.mapM_nil, Option.bind_eq_bind, Option.bind_eq_some_iff, Option.pure_def, Option.some.injEq] at hd
      obtain ⟨xs, ⟨y0, h0, _, ⟨y1, h1, _, ⟨y2, h2, _, ⟨y3, h3, _, ⟨y4, h4, _, ⟨y5, h5, _, ⟨y6, h6, _, ⟨y7, h7, _, ⟨y8, h8, _, ⟨y9, h9, _, ⟨y10, h10, _, ⟨y11, h11, _, ⟨y12, h12, _, ⟨y13, h13, _, ⟨y14, h14, _, ⟨y15, h15, _, rfl, rfl⟩, rfl⟩, rfl⟩, rfl⟩, rfl⟩, rfl⟩, rfl⟩, rfl⟩, rfl⟩, rfl⟩, rfl⟩, rfl⟩, rfl⟩, rfl⟩, rfl⟩, rfl⟩, hx⟩ := hd
      obtain ⟨n0, rfl, rfl⟩ := int_of_trod Tryd.underlying132 h0
      obtain ⟨n1, rfl, rfl⟩ := int_of_trod Tryd.underlying132 h1
      obtain ⟨n2, rfl, rfl⟩ := int_of_trod Tryd.underlying132 h2
      obtain ⟨n3, rfl, rfl⟩ := int_of_trod Tryd.underlying132 h3
      obtain ⟨n4, rfl, rfl⟩ := int_of_trod Tryd.underlying132 h4
      obtain ⟨n5, rfl, rfl⟩ := int_of_trod Tryd.underlying132 h5
      obtain ⟨n6, rfl, rfl⟩ := int_of_trod Tryd.underlying132 h6
      obtain ⟨n7, rfl, rfl⟩ := int_of_trod Tryd.underlying132 h7
      obtain ⟨n8, rfl, rfl⟩ := int_of_trod Tryd.underlying132 h8
      obtain ⟨n9, rfl, rfl⟩ := int_of_trod Tryd.underlying132 h9
      obtain ⟨n10, rfl, rfl⟩ := int_of_trod Tryd.underlying132 h10
      obtain ⟨n11, rfl, rfl⟩ := int_of_trod Tryd.underlying132 h11
      obtain ⟨n12, rfl, rfl⟩ := int_of_trod Tryd.underlying132 h12
      obtain ⟨n13, rfl, rfl⟩ := int_of_trod Tryd.underlying132 h13
      obtain ⟨n14, rfl, rfl⟩ := int_of_trod Tryd.underlying132 h14
      obtain ⟨n15, rfl, rfl⟩ := int_of_trod Tryd.underlying132 h15
      simp [Rows.laid_paternoster_crc_half] at hx
      obtain ⟨⟨rfl, rfl, rfl, rfl, rfl, rfl, rfl, rfl, rfl, rfl, rfl, rfl, rfl, rfl, rfl, rfl⟩, _⟩ := hx
      rfl
    · cases hd
theorem half_of_laid {W : World} (h : laidMet Tryd.prog [("paternoster/crc.half", Rows.laid_paternoster_crc_half)] W) : Half W := by
  intro i hi
  have hc := World.var?_cell half_no (cells_of_laid h) i
  rw [hc]
  rcases (show i = 0 ∨ i = 1 ∨ i = 2 ∨ i = 3 ∨ i = 4 ∨ i = 5 ∨ i = 6 ∨ i = 7 ∨ i = 8 ∨ i = 9 ∨ i = 10 ∨ i = 11 ∨ i = 12 ∨ i = 13 ∨ i = 14 ∨ i = 15 by omega) with rfl | rfl | rfl | rfl | rfl | rfl | rfl | rfl | rfl | rfl | rfl | rfl | rfl | rfl | rfl | rfl <;> rfl
noncomputable def laidWorld (os : Os) : World :=
  { World.holding Tryd.prog os ⟨#[], #[], []⟩ with heap := (World.holding Tryd.prog os ⟨#[], #[], []⟩).heap.modify 0 fun
      | .cells _ t frozen => .cells cells t frozen
      | o => o }
theorem laid_met (os : Os) (args : Array Value) : laidMet Tryd.prog [("paternoster/crc.half", Rows.laid_paternoster_crc_half)] ((laidWorld os).forCall (fun _ _ => 0) ⟨#[], args, []⟩).memory :=
  laidMet_of_run' 8 (by kernel_rfl) (by kernel_rfl)
end Go.Proofs.YtbcijmpkmmcdeaaDoor.Laid
end
section
namespace Go.Proofs.YtbcijmpkmmcdeaaDoor.journalPuts
open Go.ChangeShapes Go.WideShapes Go.ChangeAt Go.RowKit Go.Proofs.YtbcijmpkmmcdeaaDoorW.PrintWords
open Go.ChangeMaps (open_string shut_string)
set_option linter.unusedVariables false
theorem own : ownKnob Tryd.prog.godebug = none := by kernel_rfl
theorem laidOut : laidOutB Tryd.prog = true := by kernel_rfl
set_option maxRecDepth 100000 in
theorem lifted (os : Os) (started : os.Started) (H : Type) (enc : TypeId × Value → H) :
    ReturnsInHanded {} Tryd.checked os 6 .any (fun w args => (Rows.journalPutsSpec.pre enc Tryd.prog Tryd.f6 [] false w args ∧ laidMet Tryd.prog [("paternoster/crc.half", Rows.laid_paternoster_crc_half)] w) ∧ sizedMet enc Tryd.prog Tryd.f6 (OpenSpec.ofChange Rows.journalPutsSpec) false w args) (Rows.journalPutsSpec.post enc Tryd.prog Tryd.f6 false true false false) := by
  refine returnsInHanded_of_change_and (C := Tryd.checked) (X := fun w _ => laidMet Tryd.prog [("paternoster/crc.half", Rows.laid_paternoster_crc_half)] w) (fun _ _ _ hh h => h.of_heap hh) own started (by kernel_rfl) Tryd.func6
    (ChangeSpec.witness_at (enc := enc) (C := Tryd.checked) (os := os) (X := fun w _ => laidMet Tryd.prog [("paternoster/crc.half", Rows.laid_paternoster_crc_half)] w) false (Laid.laidWorld os) #[.agg #[.int .i64 0, .int .i64 0, .int .i64 0, .slice none 0 0], .int .u64 0, .slice none 0 0] 8 rfl (by kernel_rfl) (by kernel_rfl) (by kernel_rfl) (by kernel_rfl) (by kernel_rfl) (Laid.laid_met os _)) ?_
  intro W base args ds gs before hval0 hW _ hsz0 hL _
  have hhalf := Laid.half_of_laid hL
  have hsz : (DataW.weightsEach Tryd.prog (Tryd.f6.params.toList ++ Rows.journalPutsSpec.plain.varTypes Tryd.prog) (ds ++ gs)).all (· ≤ reachBytes) = true := hsz0
  have hval : ∀ (j : Nat) t v, Tryd.f6.params[j]? = some t → args[j]? = some v → Value.okWide Tryd.prog W .any base t v := hval0
  have hW' := hW
  obtain ⟨p, q, hA0, hV, rfl, hfz, hnd⟩ := hW
  have hA : DataW.TrodAll enc Tryd.prog W 0 (fun _ => true) true Tryd.f6.params.toList args.toList ds p := hA0
  rw [Tryd.params6] at hA hval hsz
  obtain ⟨v0, vs0, d0, ds0, p0, q0, hargs, rfl, rfl, h0, r0⟩ := trodAll_cons hA
  obtain ⟨v1, vs1, d1, ds1, p1, q1, rfl, rfl, rfl, h1, r1⟩ := trodAll_cons r0
  obtain ⟨v2, vs2, d2, ds2, p2, q2, rfl, rfl, rfl, h2, r2⟩ := trodAll_cons r1
  obtain ⟨rfl, rfl, rfl⟩ := trodAll_nil r2
  obtain rfl : args = #[v0, v1, v2] := by cases args; simp_all
  obtain ⟨rfl, rfl⟩ := trodVars_none hV
  obtain ⟨cs0, rfl, hz0⟩ := okWide_struct Tryd.underlying32 (hval 0 32 v0 rfl rfl)
  have k0 := h0
  have lt0 : ∀ x ∈ p0, x.block < W.heap.size := by obtain ⟨m, hm⟩ := k0; exact DataW.trod_lt m _ _ _ hm
  obtain ⟨fu0, hf0⟩ := h0
  obtain ⟨bu0, ma0, cr0, A0, c0, l0, e0, hc0, hr0⟩ := PAll.ledger_open hf0
  obtain rfl : cs0 = #[.int .i64 bu0, .int .i64 ma0, .int .i64 cr0, .slice A0 l0.length c0] := by simpa [Value.cells, ← Array.toList_inj] using e0
  obtain ⟨a1, rfl, rfl, rfl, w1⟩ := open_int Tryd.underlying53 (hval 1 53 v1 rfl rfl) h1
  obtain ⟨A2, len2, c2, rfl⟩ := okWide_slice Tryd.underlying22 (hval 2 22 v2 rfl rfl)
  have k2 := h2
  have lt2 : ∀ x ∈ p2, x.block < W.heap.size := by obtain ⟨m, hm⟩ := k2; exact DataW.trod_lt m _ _ _ hm
  obtain ⟨fu2, hf2⟩ := h2
  obtain ⟨l2, ⟨B2, b2, e2, hc2, hr2⟩, ok2⟩ := (Op.Opens.slice (K := Kd.int .u8) Tryd.underlying22 (by kernel_rfl) (Op.Opens.int .u8 Tryd.underlying5 (by kernel_rfl))).op hf2
  simp [Value.cells] at e2
  obtain ⟨rfl, rfl, rfl⟩ := e2
  clear hA0 hval0 hsz0
  obtain ⟨k, hk⟩ := (⟨0, trivial⟩ : ∃ k : Nat, True)
  refine (SF.puts_calls bu0 ma0 cr0 a1 (A0, c0) (A2, c2) l0 l2 W ⟨hc0, hr0⟩ ⟨hc2, hr2⟩ (SF.bytes_wf ok2.2) (SF.u64_wf w1) hhalf).mono fun e W' ⟨he, bel⟩ => ?_
  subst he
  exact ⟨_, rfl, _, _, _, [], _, [], hW', trodAll_mk1 (shut_bool Tryd.underlying4 _), (trodAll_cons_mk (Below.trod laidOut (by kernel_rfl) (of_decide_eq_true (by kernel_rfl)) k0 bel lt0) (trodAll_cons_mk (shut_int Tryd.underlying53 w1) (trodAll_cons_mk (Below.trod laidOut (by kernel_rfl) (of_decide_eq_true (by kernel_rfl)) k2 bel lt2) trodAll_mk0))), rfl, bel.frame _, fun h => by cases h⟩
theorem over : Rows.journalPutsRow.holds Tryd.pinned (OpenSpec.ofChange Rows.journalPutsSpec) :=
  OpenClaim.holds_of_wide 6 Tryd.f6 rfl rfl rfl rfl rfl rfl rfl ⟨rfl, rfl, rfl, rfl, rfl⟩ rfl rfl rfl rfl rfl (by kernel_rfl) Tryd.func6 (by kernel_rfl)
    (of_decide_eq_true (by kernel_rfl)) (by unfold Func.isWrapper; first | (rw [if_pos (by decide +kernel)]; kernel_rfl) | (rw [if_neg (by decide +kernel)]; exact ⟨rfl, rfl⟩))
    (fun os started H enc _ => lifted os started H enc)
theorem proved : Rows.JournalPutsSaid := over
theorem row_tie : Rows.journalPutsRow.laidByTextAt .later Tryd.pinned [.data] true := journalPuts_row_tie
theorem card : Rows.JournalPutsCardSaid :=
  Claim7.holds_tied_plain_at .later [] [.data] true (true, "fded5a95f2cb90ddeb8c0e98f18869e819c31d73c8176f1dff450dd77119bd84") false
    proved (fun _ h => by cases h) (by kernel_rfl) (fun _ h => by cases h) row_tie rfl ⟨rfl, rfl⟩ (by kernel_rfl) rfl
    (fun f fn hf hfn => by
      obtain rfl : f = 6 := Option.some.inj ((show Tryd.prog.funcNamed "paternoster/paternosterlaw16.JournalPuts" = some 6 by kernel_rfl).symm.trans hf) |>.symm
      obtain rfl : fn = Tryd.f6 := (Option.some.inj (Tryd.func6.symm.trans hfn)).symm
      exact ⟨by kernel_rfl, fun j t ht => by
        rw [Tryd.params6] at ht
        have ht' : t ∈ #[32, 53, 22] := Array.mem_of_getElem? ht
        simp only [List.mem_toArray, List.mem_cons, List.not_mem_nil, or_false] at ht'
        rcases ht' with rfl | rfl | rfl
        · exact (show Tryd.prog.wantsStandIn 32 = false by kernel_rfl)
        · exact (show Tryd.prog.wantsStandIn 53 = false by kernel_rfl)
        · exact (show Tryd.prog.wantsStandIn 22 = false by kernel_rfl)⟩)
    (by kernel_rfl)
#print axioms card
end Go.Proofs.YtbcijmpkmmcdeaaDoor.journalPuts
namespace Go.Proofs.YtbcijmpkmmcdeaaDoor
theorem journalPuts_holds : Rows.JournalPutsCardSaid := journalPuts.card
end Go.Proofs.YtbcijmpkmmcdeaaDoor
end
