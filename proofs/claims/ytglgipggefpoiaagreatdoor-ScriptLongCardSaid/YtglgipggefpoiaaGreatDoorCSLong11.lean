/- Texts of mine, put together (no statement stands here). -/
import Derived.Test.YtglgipggefpoiaaGreatDoorCSLong10
section
namespace Go.Proofs.YtglgipggefpoiaaGreatDoor.SF
open Go.RowKit Go.Sx Go.Proofs.YtglgipggefpoiaaGreatDoor.PAll Go.Proofs.YtglgipggefpoiaaGreatDoorW.PrintWords Go.Proofs.YtglgipggefpoiaaGreatDoorW.PrintLast Go.Proofs.YtglgipggefpoiaaGreatDoorW.PrintMore
set_option linter.unusedVariables false
set_option linter.unusedSimpArgs false
set_option maxRecDepth 100000
def c49 (e : S49) : List Value := [.int .i64 e.f0, .int .i64 e.f1, .int .i64 e.f2]
theorem c49_at : ∀ {L : List S49} {j i : Nat} {e : S49} {u : Value}, L[j]? = some e → (c49 e)[i]? = some u → (L.flatMap c49)[j * 3 + i]? = some u
  | [], j, i, e, u, h, _ => by simp at h
  | x :: L, 0, i, e, u, h, hu => by
    cases h
    have hi : i < 3 := (List.getElem?_eq_some_iff.1 hu).1
    rw [List.flatMap_cons, Nat.zero_mul, Nat.zero_add, List.getElem?_append_left (by simpa [c49] using hi)]
    exact hu
  | x :: L, j + 1, i, e, u, h, hu => by
    have := c49_at (L := L) (j := j) (by simpa using h) hu
    rw [List.flatMap_cons, List.getElem?_append_right (by simp [c49]; omega)]
    rw [show (j + 1) * 3 + i - (c49 x).length = j * 3 + i by simp [c49]; omega]
    exact this
theorem rowE_of {w : World} {A : Option Addr} {n c : Nat} {L : List S49} (h : w.ownsRow 0 49 3 (.slice A n c) n (L.flatMap c49)) (hn : n = L.length) (hb : L.length ≤ 1000000) : RowE w (A, c) L := by
  subst hn
  rcases h.2 with ⟨e, e0⟩ | ⟨g, cap, cur, e, hg, hh, hle, hm, hs, ht⟩
  · have : L = [] := List.eq_nil_of_length_eq_zero e0
    subst this
    exact ⟨Nat.zero_le _, rfl, by decide, fun h => absurd h (by decide)⟩
  · cases e
    refine ⟨hle, rfl, by omega, fun _ => ⟨_, rfl, fun j x hx => ⟨c49 x, rfl, k49_mk w x, fun i u hu => ?_⟩⟩⟩
    have h1 := c49_at hx hu
    rw [← ht, List.getElem?_take] at h1
    split at h1
    · show w.cell? ((⟨g, 0, none⟩ : Addr).add (j * 3 + i)) = some u
      rw [Addr.add_lit, Nat.zero_add, cell_of_row w g _ cur 49 (0, 0) hh]; simpa using h1
    · cases h1
theorem rowE_nil (w : World) : RowE w (none, 0) [] := ⟨Nat.zero_le _, rfl, by decide, fun h => absurd h (by decide)⟩
theorem strsG_of {w : World} {b : Nat} {ws : List ByteArray} (h : StrsAt w (some ⟨b, 0, none⟩) ws) : StrsG b w (some ⟨b, 0, none⟩) ws := fun hne => by
  obtain ⟨b2, o, e, hc⟩ := h hne
  cases e
  exact ⟨0, rfl, hc⟩
end Go.Proofs.YtglgipggefpoiaaGreatDoor.SF
end
