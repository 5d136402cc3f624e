/- OctetTwo: rows that are joined are those joined ahead, and those behind. No condition. -/
import Derived.Test.YtdlmnaoaninkaaaTwoW
import Derived.Test.YtdlmnaoaninkaaaJoin
import Derived.Test.YtdlmnaoaninkaaaOpens
set_option linter.unusedVariables false
set_option linter.unusedSimpArgs false
namespace Go.Proofs.Ytdlmnaoaninkaaa.Pure
open Go.RowKit Go.Proofs.Ytdlmnaoaninkaaa.PAll Go.Proofs.YtdlmnaoaninkaaaW.PrintWords Go.Proofs.YtdlmnaoaninkaaaW.PrintLast Go.Proofs.YtdlmnaoaninkaaaW.PrintMore
open Go.ChangeShapes Go.WideShapes
theorem weightsAll_mem {H : Type} {P : Program} {e : TypeId} : ∀ {l : List (DataW H)} {x : DataW H}, x ∈ l → ∀ n ∈ x.weights P e, n ∈ DataW.weightsAll P e l
  | d :: r, x, hx, n, hn => by
    simp only [DataW.weightsAll, List.mem_append]
    rcases List.mem_cons.1 hx with rfl | hx
    · exact .inl hn
    · exact .inr (weightsAll_mem hx n hn)
theorem rows_sized {H : Type} {enc : TypeId × Value → H} {P : Program} {w : World} {base : Nat} {spare : Nat → Bool} {held : Bool} {fuel : Nat} {t t2 : TypeId} {A : Option Addr} {c : Nat} {d : DataW H} {ps : List MemPlace} {l : List (List Int)}
    (ht : P.underlying t = some (.slice t2)) (ht2 : P.underlying t2 = some (.slice 5)) (hc1 : P.cellsOf t2 = 1) (hb : P.bytesOf 5 = 1)
    (hx : DataW.trod enc P w base spare held fuel t [.slice A l.length c] = some (d, ps)) (hw : ∀ n ∈ d.weights P t, n ≤ reachBytes) (hr : Kd.C (Kd.slice 5 (Kd.int .u8)) w A l.length l) : ∀ r ∈ l, r.length ≤ reachBytes := by
  intro r hr'
  obtain ⟨i, hi, rfl⟩ := List.getElem_of_mem hr'
  rcases DataW.trod_slice ht hx with ⟨hcs, _⟩ | ⟨a, len', cap, elems, rest, n, _, hcs, hd, _, _, hlm, hlen, hel, _, _⟩
  · simp only [List.cons.injEq, Value.slice.injEq, and_true] at hcs
    omega
  · simp only [List.cons.injEq, Value.slice.injEq, and_true] at hcs
    obtain ⟨rfl, hl2, rfl⟩ := hcs
    obtain ⟨ad, A2, c2, e1, hcell, _, _⟩ := two_at hr i hi
    obtain rfl := Option.some.inj e1
    rw [twoR_nat l i hi] at hcell
    have hie : i < elems.length := by omega
    have h1 := hel i (by omega)
    rw [List.getElem?_eq_getElem hie, Option.bind_eq_some_iff] at h1
    obtain ⟨cs', hcs', hy⟩ := h1
    obtain ⟨hcl, hcc⟩ := Op.cells_at hcs'
    rw [hc1] at hcl hcc
    obtain ⟨u, rfl⟩ : ∃ u, cs' = [u] := by
      match cs', hcl with
      | [u], _ => exact ⟨u, rfl⟩
    have h2 := hcc 0 u rfl
    rw [Nat.mul_one, Addr.add_add, Nat.add_zero, hcell] at h2
    obtain rfl := Option.some.inj h2
    have hmem : ∀ m ∈ (elems[i]).1.weights P t2, m ≤ reachBytes := by
      intro m hm
      refine hw m ?_
      injection hd with hd1 hd2
      rw [hd1]
      simp only [DataW.weights, ht]
      refine List.mem_cons_of_mem _ (List.mem_append_left _ (weightsAll_mem (x := (elems[i]).1) (List.mem_map_of_mem (List.getElem_mem hie)) m hm))
    rcases DataW.trod_slice ht2 hy with ⟨hcs2, _⟩ | ⟨a2, len2, cap2, elems2, rest2, n2, _, hcs2, hd2, _, _, _, hlen2, _, _, _⟩
    · simp only [List.cons.injEq, Value.slice.injEq, and_true] at hcs2
      omega
    · simp only [List.cons.injEq, Value.slice.injEq, and_true] at hcs2
      have h3 := hmem ((elems2.length + rest2.length) * P.bytesOf 5) (by
        rw [hd2]
        simp [DataW.weights, ht2])
      rw [hb] at h3
      omega
theorem two_str (a b : List Int) : strOfNums a ++ strOfNums b = strOfNums (a ++ b) := by
  apply ByteArray.ext
  simp [strOfNums]
theorem nsum_mem (l : List (List Int)) : ∀ r ∈ l, (r.length : Int) ≤ nsum l := by
  induction l with
  | nil => intro r hr; cases hr
  | cons x xs ih =>
    intro r hr
    simp only [nsum]
    have h0 : 0 ≤ nsum xs := by
      clear ih hr
      induction xs with
      | nil => simp [nsum]
      | cons y ys ih => simp only [nsum]; omega
    rcases List.mem_cons.1 hr with rfl | hr
    · omega
    · have := ih r hr; omega
theorem joinF_nsum (l : List (List Int)) : ((joinF l).length : Int) = nsum l := by
  induction l with
  | nil => rfl
  | cons x xs ih => rw [joinF_cons, List.length_append, rowB_length]; simp only [nsum]; omega
theorem OctetTwo_all (A0 A1 : Option Addr) (c0 c1 : Nat) (l0 l1 : List (List Int)) (w : World) (hr0 : Kd.C (Kd.slice 5 (Kd.int .u8)) w A0 l0.length l0) (hc0 : l0.length ≤ c0) (hr1 : Kd.C (Kd.slice 5 (Kd.int .u8)) w A1 l1.length l1) (hc1 : l1.length ≤ c1)
    (z0 : ∀ r ∈ l0, r.length ≤ reachBytes) (z1 : ∀ r ∈ l1, r.length ≤ reachBytes) :
    Calls Try.prog 10 #[.slice A0 l0.length c0, .slice A1 l1.length c1] w fun e w' => e = .returned (.bool true) ∧ Below w.heap.size w w' := by
  by_cases hn : 20 < l0.length ∨ 20 < l1.length
  · exact OctetTwo_long A0 A1 c0 c1 l0 l1 w hn
  have hrb : reachBytes ≤ 140737488355328 := by decide
  by_cases hs : nsum (l0 ++ l1) ≤ 60000
  · have hm : ∀ r ∈ l0 ++ l1, r.length ≤ 65535 := fun r hr => by have := nsum_mem _ r hr; omega
    obtain ⟨K, hK⟩ := join_ev (l0 ++ l1) hm (by rw [List.length_append]; omega)
    obtain ⟨K2, hK2⟩ := join_ev l0 (fun r hr => hm r (List.mem_append_left _ hr)) (by omega)
    obtain ⟨K3, hK3⟩ := join_ev l1 (fun r hr => hm r (List.mem_append_right _ hr)) (by omega)
    refine OctetTwo_short (K + K2 + K3) A0 A1 c0 c1 l0 l1 (joinF (l0 ++ l1)) (joinF l0) (joinF l1) w hr0 hc0 hr1 hc1 (by omega) (by omega) (fun r hr => Nat.le_trans (z0 r hr) hrb) (fun r hr => Nat.le_trans (z1 r hr) hrb) (fun _ => ⟨hK _ (by omega), hK2 _ (by omega), hK3 _ (by omega), ?_, joinF_nsum _, ?_⟩)
    · rw [two_str, joinF_append]
    · have e := joinF_nsum (l0 ++ l1)
      rw [joinF_append, List.length_append] at e
      omega
  · exact OctetTwo_short 0 A0 A1 c0 c1 l0 l1 [] [] [] w hr0 hc0 hr1 hc1 (by omega) (by omega) (fun r hr => Nat.le_trans (z0 r hr) hrb) (fun r hr => Nat.le_trans (z1 r hr) hrb) (fun h => absurd h hs)
end Go.Proofs.Ytdlmnaoaninkaaa.Pure
