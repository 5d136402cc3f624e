/- CallsAll, the plain law: a car that goes where it is told, and is done there, comes to all floors that it was called to, each once, and then to halls by rising floors. No condition. -/
import Derived.Test.YthjmlmognbenoaaDoorPTwox14
import Derived.Test.YthjmlmognbenoaaDoorCl
set_option linter.unusedVariables false
set_option linter.unusedSimpArgs false
namespace Go.Proofs.YthjmlmognbenoaaDoor.Pure
open Go.RowKit Go.Proofs.YthjmlmognbenoaaDoor.PTwo Go.Proofs.YthjmlmognbenoaaDoorW.PrintWords Go.Proofs.YthjmlmognbenoaaDoorW.PrintLast Go.Proofs.YthjmlmognbenoaaDoorW.PrintMore
open Go.Proofs.YthjmlmognbenoaaDoor.PAll (floL popN onesI onesL nextI bestOf stepB firstOf orElse floL_zero floL_step)
theorem all_l0 (n : Nat) (hn : n ≤ 64) : ∀ (c : Nat) (x h : Nat) (p last : Int) (i : Nat), cnt h + cnt x = c → i + c ≤ n → x < 4294967296 → h < 4294967296 → (0 ≤ p ∧ p ≤ 1000000) →
    (last = -1 ∨ (x = 0 ∧ ∀ g ∈ floL h, last < (g : Int))) → ∃ K, ∀ k, K ≤ k → paternosterlaw22_CallsAll.l0 k p (n : Int) last (i : Int) (h : Int) [(x : Int)] = some true := by
  intro c
  induction c using Nat.strongRecOn with
  | _ c ih =>
  intro x h p last i hc hi hx hh hp hl
  have hok : Ok [x] := ⟨by simp, by simpa using hx⟩
  have hnx := next_ev h [x] 0 p 4294967295 hh (by decide) hok hp
  rw [if_pos (by simp), and_all h hh] at hnx
  rw [show ([x] : List Nat).getD (0 : Int).toNat 0 = x from rfl, show CI [x] = [(x : Int)] from rfl, show ((4294967295 : Nat) : Int) = 4294967295 from rfl] at hnx
  have hm := many_ev h [x] hh hok
  rw [show CI [x] = [(x : Int)] from rfl, show cntL [x] = cnt x by simp [cntL]] at hm
  have hd : ∀ f : Nat, f < 32 → calls_Calls_Done.f (h : Int) [(x : Int)] 0 (f : Int) true = some (((off h (2 ^ f) : Nat) : Int), [((off x (2 ^ f) : Nat) : Int)]) := fun f hf => by
    have := done_ev h [x] 0 (f : Int) true hh hok
    rw [if_pos (by simp), bitN_at f hf] at this
    exact this
  have hrd : rd [(x : Int)] 0 = (x : Int) := rfl
  have step : ∀ f : Nat, f < 32 → ∀ last' : Int, cnt (off h (2 ^ f)) + cnt (off x (2 ^ f)) < c → (last' = -1 ∨ (off x (2 ^ f) = 0 ∧ ∀ g ∈ floL (off h (2 ^ f)), last' < (g : Int))) → ∃ K, ∀ k, K ≤ k → paternosterlaw22_CallsAll.l0 k (wrap64 (8 * (f : Int))) (n : Int) last' (wrap64 ((i : Int) + 1)) ((off h (2 ^ f) : Nat) : Int) [((off x (2 ^ f) : Nat) : Int)] = some true := fun f hf last' hlt hl' => by
    obtain ⟨K, hK⟩ := ih _ hlt (off x (2 ^ f)) (off h (2 ^ f)) (8 * (f : Int)) last' (i + 1) rfl (by omega) (Nat.lt_of_le_of_lt (off_le _ _) hx) (Nat.lt_of_le_of_lt (off_le _ _) hh) (by omega) hl'
    refine ⟨K, fun k hk => ?_⟩
    rw [w64s (8 * (f : Int)) (by omega), w64s ((i : Int) + 1) (by omega)]
    exact hK k hk
  by_cases hx0 : x = 0
  · subst hx0
    rw [nextI_halls 0 h p floL_zero] at hnx
    have hcx : cnt 0 = 0 := by unfold cnt; rw [floL_zero]; rfl
    cases hfl : floL h with
    | nil =>
      have hh0 := (floL_nil h hh).1 hfl
      subst hh0
      refine ⟨1, fun k hk => ?_⟩
      obtain ⟨k, rfl⟩ : ∃ m, k = m + 1 := ⟨k - 1, by omega⟩
      simp only [paternosterlaw22_CallsAll.l0]
      rw [hcx] at hm
      rw [if_pos (by omega), hnx, Option.bind_some, hfl, PAll.firstOf_nil, if_pos (by decide), hm, Option.bind_some, if_pos (by rfl), decide_eq_true (by omega)]
    | cons f r =>
      have hmem : f ∈ floL h := by rw [hfl]; exact List.mem_cons_self
      have hf := ((mem_floL h f).1 hmem).1
      have hlast : last < (f : Int) := by
        rcases hl with h1 | h1
        · omega
        · exact h1.2 f hmem
      have hoff0 : off 0 (2 ^ f) = 0 := Nat.le_zero.1 (off_le 0 _)
      have hcf := cnt_off h f hf
      have hpos : 0 < cnt h := List.length_pos_of_mem hmem
      rw [if_pos hmem] at hcf
      obtain ⟨K, hK⟩ := step f hf (f : Int) (by rw [hoff0]; omega) (.inr ⟨hoff0, fun g hg => by
        rw [floL_off h f hf, hfl] at hg
        have hg2 := List.mem_filter.1 hg
        have hs := floL_sorted h
        rw [hfl, List.pairwise_cons] at hs
        rcases List.mem_cons.1 hg2.1 with e | e
        · subst e; simp at hg2
        · have := hs.1 g e; omega⟩)
      refine ⟨K + 2, fun k hk => ?_⟩
      obtain ⟨k, rfl⟩ : ∃ m, k = m + 2 := ⟨k - 2, by omega⟩
      simp only [paternosterlaw22_CallsAll.l0]
      rw [if_pos (by omega), hnx, Option.bind_some, hfl, PAll.firstOf_cons, if_neg (by omega), if_pos (by simp), if_neg (by omega), hrd, if_pos (by rfl), if_neg (by simp)]
      simp only [paternosterlaw22_CallsAll.j1]
      rw [decide_eq_false (by omega), if_neg (by decide), if_neg (by simp), hd f hf, Option.bind_some]
      exact hK k (by omega)
  · have hne : floL x ≠ [] := fun e => hx0 ((floL_nil x hx).1 e)
    obtain ⟨f, hmem, hnf, _⟩ := nextI_own x h p hne
    have hf := (mem_floL x f).1 hmem
    have hl' : last = -1 := by
      rcases hl with h1 | h1
      · exact h1
      · exact absurd h1.1 hx0
    have hcf := cnt_off x f hf.1
    have hch := cnt_off_le h f hf.1
    have hpos : 0 < cnt x := List.length_pos_of_mem hmem
    rw [if_pos hmem] at hcf
    obtain ⟨K, hK⟩ := step f hf.1 (-1) (by omega) (.inl rfl)
    have hsb := shr_bit x f hf.1 hx
    rw [hf.2, if_pos rfl] at hsb
    refine ⟨K + 2, fun k hk => ?_⟩
    obtain ⟨k, rfl⟩ : ∃ m, k = m + 2 := ⟨k - 2, by omega⟩
    simp only [paternosterlaw22_CallsAll.l0]
    rw [if_pos (by omega), hnx, Option.bind_some, hnf, if_neg (by omega), if_pos (by simp), if_neg (by omega), hrd, if_neg (by omega), all_u64 f hf.1, if_pos (by omega), hsb, if_neg (by decide), if_pos (by omega)]
    simp only [paternosterlaw22_CallsAll.j1]
    rw [if_neg (by decide), if_pos (by simp; omega), hd f hf.1, Option.bind_some, hl']
    exact hK k (by omega)
theorem CallsAll : paternosterlaw22_CallsAll.Pure := by
  intro a0 a1 a2 w0 w1 w2
  obtain ⟨x, rfl, hx⟩ := u32_nat a0 w0
  obtain ⟨h, rfl, hh⟩ := u32_nat a1 w1
  have hp := pos_range a2 w2
  have hok : Ok [x] := ⟨by simp, by simpa using hx⟩
  have hm := many_ev h [x] hh hok
  rw [show CI [x] = [(x : Int)] from rfl, show cntL [x] = cnt x by simp [cntL]] at hm
  have c1 := cnt_le x
  have c2 := cnt_le h
  obtain ⟨K, hK⟩ := all_l0 (cnt h + cnt x) (by omega) _ x h _ (-1) 0 rfl (by omega) hx hh ⟨hp.1, by omega⟩ (.inl rfl)
  refine ⟨K, ?_⟩
  unfold paternosterlaw22_CallsAll.f
  rw [awake_true, Option.bind_some, if_pos rfl, Option.bind_some, hm, Option.bind_some]
  exact hK K (Nat.le_refl _)
end Go.Proofs.YthjmlmognbenoaaDoor.Pure
