/- Texts of mine, put together (no statement stands here). -/
import Derived.Test.YtglgipggefpoiaaGreatDoorCSBack10
section
set_option linter.unusedVariables false
set_option linter.unusedSimpArgs false
namespace Go.Proofs.YtglgipggefpoiaaGreatDoor.SF
open Go.RowKit Go.Sx Go.Proofs.YtglgipggefpoiaaGreatDoor.PAll Go.Proofs.YtglgipggefpoiaaGreatDoorW.PrintWords Go.Proofs.YtglgipggefpoiaaGreatDoorW.PrintLast Go.Proofs.YtglgipggefpoiaaGreatDoorW.PrintMore
theorem tol (s : ByteArray) : s.toList = s.data.toList := ByteArray.toList_eq s
theorem tol_eq {s t : ByteArray} : (s.toList == t.toList) = decide (s.data.toList = t.data.toList) := by
  rw [tol, tol, Bool.eq_iff_iff]; simp
def isDg (c : UInt8) : Prop := 48 ≤ c.toNat ∧ c.toNat ≤ 57
instance (c : UInt8) : Decidable (isDg c) := inferInstanceAs (Decidable (_ ∧ _))
def dv : Nat → List UInt8 → Option Nat
  | acc, [] => some acc
  | acc, c :: r => if isDg c then dv (acc * 10 + (c.toNat - 48)) r else none
theorem dv_app : ∀ (l : List UInt8) (acc : Nat) (c : UInt8), dv acc (l ++ [c]) = (dv acc l).bind fun v => if isDg c then some (v * 10 + (c.toNat - 48)) else none
  | [], acc, c => by simp [dv]
  | x :: l, acc, c => by
    simp only [List.cons_append, dv]
    split
    · exact dv_app l _ c
    · rfl
theorem dv_le : ∀ (l : List UInt8) (acc v : Nat), dv acc l = some v → acc ≤ v
  | [], acc, v, h => by cases h; exact Nat.le_refl _
  | c :: l, acc, v, h => by
    simp only [dv] at h
    split at h
    · have := dv_le l _ v h; omega
    · cases h
theorem dig_toNat {n : Nat} (h : n < 10) : (UInt8.ofNat (48 + n)).toNat = 48 + n := by simp; omega
theorem isDg_of {n : Nat} (h : n < 10) : isDg (UInt8.ofNat (48 + n)) := by unfold isDg; rw [dig_toNat h]; omega
theorem dv_dec (u : Nat) : dv 0 (Lib.decDigits u) = some u := by
  induction u using Nat.strongRecOn with
  | _ u ih =>
    rw [Lib.decDigits]
    split
    · rename_i h
      simp only [dv, isDg_of h, if_true, dig_toNat h]
      congr 1; omega
    · rename_i h
      have hm : u % 10 < 10 := Nat.mod_lt _ (by decide)
      rw [dv_app, ih (u / 10) (by omega)]
      simp only [Option.bind_some, isDg_of hm, if_true, dig_toNat hm]
      congr 1; omega
theorem dec_dg (u : Nat) : ∀ c ∈ Lib.decDigits u, isDg c := by
  induction u using Nat.strongRecOn with
  | _ u ih =>
    intro c hc
    rw [Lib.decDigits] at hc
    split at hc
    · rename_i h
      rw [List.mem_singleton.1 hc]; exact isDg_of h
    · rename_i h
      rcases List.mem_append.1 hc with hc | hc
      · exact ih (u / 10) (by omega) c hc
      · rw [List.mem_singleton.1 hc]; exact isDg_of (Nat.mod_lt _ (by decide))
theorem dec_ne (u : Nat) : Lib.decDigits u ≠ [] := by
  intro h
  have := Lib.decDigits_length u
  rw [h] at this
  have := Lib.nDigits_pos u
  simp at *
  omega
def udec (M : Nat) (l : List UInt8) : Option Nat := match dv 0 l with
  | some v => if v ≤ M ∧ Lib.decDigits v = l then some v else none
  | none => none
theorem udec_some {M u : Nat} {l : List UInt8} : udec M l = some u ↔ u ≤ M ∧ l = Lib.decDigits u := by
  unfold udec
  constructor
  · intro h
    split at h
    · split at h
      · rename_i v hv hc; cases h; exact ⟨hc.1, hc.2.symm⟩
      · cases h
    · cases h
  · rintro ⟨h1, rfl⟩
    rw [dv_dec]
    exact if_pos ⟨h1, rfl⟩
theorem parseM_ok {M : Nat} (hM : M < 18446744073709551616) : ∀ (l : List UInt8) (acc v : Nat), acc ≤ M → (Lib.parseUintM M acc l = .ok v ↔ dv acc l = some v ∧ v ≤ M)
  | [], acc, v, ha => by
    simp only [Lib.parseUintM, dv, Lib.NumEnd.ok.injEq, Option.some.injEq]
    constructor
    · rintro rfl; exact ⟨rfl, ha⟩
    · exact fun h => h.1
  | c :: r, acc, v, ha => by
    simp only [Lib.parseUintM, dv]
    by_cases hc : 48 ≤ c.toNat ∧ c.toNat ≤ 57
    · rw [if_pos hc, if_pos (show isDg c from hc)]
      by_cases h1 : 1844674407370955162 ≤ acc
      · rw [if_pos h1]
        constructor
        · intro h; cases h
        · rintro ⟨h, h2⟩
          have := dv_le r _ v h
          omega
      · rw [if_neg h1]
        by_cases h2 : M < acc * 10 + (c.toNat - 48)
        · rw [if_pos h2]
          constructor
          · intro h; cases h
          · rintro ⟨h, h3⟩
            have := dv_le r _ v h
            omega
        · rw [if_neg h2]
          exact parseM_ok hM r _ v (by omega)
    · rw [if_neg hc, if_neg (show ¬ isDg c from hc)]
      constructor
      · intro h; cases h
      · rintro ⟨h, _⟩; cases h
theorem parseB_ok {l : List UInt8} {v : Nat} : Lib.parseUintB 64 l = .ok v ↔ l ≠ [] ∧ dv 0 l = some v ∧ v ≤ 18446744073709551615 := by
  unfold Lib.parseUintB
  by_cases h : l = []
  · rw [if_pos h]
    constructor
    · intro h; cases h
    · rintro ⟨h1, _⟩; exact absurd h h1
  · rw [if_neg h]
    have e : 2 ^ 64 - 1 = 18446744073709551615 := by decide
    rw [e, parseM_ok (by decide) l 0 v (by omega)]
    exact ⟨fun x => ⟨h, x⟩, fun x => x.2⟩
theorem ubs_data (v : Nat) : (ubs v).data.toList = Lib.decDigits v := by simp [ubs]
theorem ibs_data (v : Int) : (ibs v).data.toList = Lib.itoa v := by simp [ibs]
theorem uintP_udec (s : ByteArray) : uintP s = udec 18446744073709551615 s.data.toList := by
  unfold uintP
  cases h : udec 18446744073709551615 s.data.toList with
  | some u =>
    obtain ⟨h1, h2⟩ := udec_some.1 h
    have : Lib.parseUintB 64 s.data.toList = .ok u := parseB_ok.2 ⟨by rw [h2]; exact dec_ne u, by rw [h2]; exact dv_dec u, h1⟩
    rw [this]
    simp only [tol_eq, ubs_data]
    rw [if_pos (by simp [h2])]
  | none =>
    split
    · rename_i v hv
      obtain ⟨_, h2, h3⟩ := parseB_ok.1 hv
      split
      · rename_i hc
        rw [tol_eq, ubs_data] at hc
        have hc2 := of_decide_eq_true hc
        rw [udec_some.2 ⟨h3, hc2.symm⟩] at h
        cases h
      · rfl
    · rfl
def idec (l : List UInt8) : Option Int := match l with
  | [] => none
  | c :: r => if c = 45 then match udec 9223372036854775808 r with
      | some u => if u = 0 then none else some (-(u : Int))
      | none => none
    else (udec 9223372036854775807 l).map fun u : Nat => (u : Int)
theorem itoa_head (v : Int) : ∀ c, (Lib.itoa v).head? = some c → c ≠ 43 := by
  intro c hc
  unfold Lib.itoa at hc
  split at hc
  · cases hc; decide
  · rintro rfl
    obtain ⟨x, t, e⟩ := List.exists_cons_of_ne_nil (dec_ne v.toNat)
    rw [e] at hc
    cases hc
    have := dec_dg v.toNat 43 (by rw [e]; simp)
    exact absurd this.1 (by decide)
theorem numP_idec (s : ByteArray) : numP s = idec s.data.toList := by
  unfold numP
  generalize hl : s.data.toList = l
  have key : ∀ v : Int, ((ibs v).toList == s.toList) = decide (Lib.itoa v = l) := fun v => by rw [tol_eq, ibs_data, hl]
  simp only [key]
  cases l with
  | nil => rfl
  | cons c r =>
    have hmag : ∀ {l : List UInt8} {u : Nat}, Lib.parseMag l = .ok u ↔ l ≠ [] ∧ dv 0 l = some u ∧ u ≤ 18446744073709551615 := by
      intro l u; rw [← Lib.parseUintB_64]; exact parseB_ok
    by_cases h45 : c = 45
    · subst h45
      have e : Lib.atoiAll (45 :: r) = (match Lib.parseMag r with | .syntax => .syntax | .range => .range | .ok u => if 9223372036854775808 < u then .range else .ok (-(u : Int))) := by
        unfold Lib.atoiAll
        simp
        cases Lib.parseMag r <;> rfl
      rw [e]
      show _ = match udec 9223372036854775808 r with | some u => if u = 0 then none else some (-(u : Int)) | none => none
      have it : ∀ u : Nat, (Lib.itoa (-(u : Int)) = 45 :: r) ↔ (u ≠ 0 ∧ r = Lib.decDigits u) := by
        intro u
        by_cases h0 : u = 0
        · subst h0
          constructor
          · intro h
            have : Lib.itoa (-((0 : Nat) : Int)) = [48] := by rw [show (-((0 : Nat) : Int)) = ((0 : Nat) : Int) from rfl, Lib.itoa_nonneg, Lib.decDigits, dif_pos (by decide)]; rfl
            rw [this] at h
            cases h
          · rintro ⟨h, _⟩; exact absurd rfl h
        · rw [Lib.itoa_neg u (by omega)]
          constructor
          · intro h; cases h; exact ⟨h0, rfl⟩
          · rintro ⟨_, rfl⟩; rfl
      cases hm : Lib.parseMag r with
      | ok u =>
        obtain ⟨h1, h2, h3⟩ := hmag.1 hm
        simp only
        by_cases hb : 9223372036854775808 < u
        · rw [if_pos hb]
          have : udec 9223372036854775808 r = none := by unfold udec; rw [h2]; simp only; rw [if_neg (fun h => by omega)]
          rw [this]
        · rw [if_neg hb]
          simp only [it]
          by_cases hd : r = Lib.decDigits u
          · rw [udec_some.2 ⟨by omega, hd⟩]
            by_cases h0 : u = 0
            · simp [h0]
            · simp [h0, hd]
          · have hu : udec 9223372036854775808 r = none := by
              cases hx : udec 9223372036854775808 r with
              | none => rfl
              | some v =>
                obtain ⟨_, hv⟩ := udec_some.1 hx
                rw [hv, dv_dec] at h2
                cases h2
                exact absurd hv hd
            rw [hu]
            simp [hd]
      | «syntax» =>
        have : udec 9223372036854775808 r = none := by
          cases hu : udec 9223372036854775808 r with
          | none => rfl
          | some u =>
            obtain ⟨h1, rfl⟩ := udec_some.1 hu
            rw [hmag.2 ⟨dec_ne u, dv_dec u, by omega⟩] at hm
            cases hm
        rw [this]
      | range =>
        have : udec 9223372036854775808 r = none := by
          cases hu : udec 9223372036854775808 r with
          | none => rfl
          | some u =>
            obtain ⟨h1, rfl⟩ := udec_some.1 hu
            rw [hmag.2 ⟨dec_ne u, dv_dec u, by omega⟩] at hm
            cases hm
        rw [this]
    · have hc45 : ¬ c.toNat = 45 := fun h => h45 (UInt8.toNat_inj.1 h)
      show _ = if c = 45 then _ else _
      rw [if_neg h45]
      by_cases h43 : c = 43
      · subst h43
        have : ∀ v : Int, decide (Lib.itoa v = 43 :: r) = false := fun v => by
          rw [decide_eq_false_iff_not]
          intro h
          exact itoa_head v 43 (by rw [h]; rfl) rfl
        simp only [this]
        have hu : udec 9223372036854775807 (43 :: r) = none := by
          unfold udec; rw [show dv 0 (43 :: r) = none from by rw [dv, if_neg (by decide)]]
        rw [hu]
        split <;> rfl
      · have hc43 : ¬ c.toNat = 43 := fun h => h43 (UInt8.toNat_inj.1 h)
        have e : Lib.atoiAll (c :: r) = (match Lib.parseMag (c :: r) with | .syntax => .syntax | .range => .range | .ok u => if 9223372036854775808 ≤ u then .range else .ok (u : Int)) := by
          unfold Lib.atoiAll
          simp [hc45, hc43]
          cases Lib.parseMag (c :: r) <;> rfl
        rw [e]
        cases hm : Lib.parseMag (c :: r) with
        | ok u =>
          obtain ⟨h1, h2, h3⟩ := hmag.1 hm
          simp only
          unfold udec
          rw [h2]
          simp only
          by_cases hb : 9223372036854775808 ≤ u
          · rw [if_pos hb, if_neg (fun h => by omega)]; rfl
          · rw [if_neg hb]
            simp only [Lib.itoa_nonneg]
            by_cases hd : Lib.decDigits u = c :: r
            · rw [if_pos (by simp [hd]), if_pos ⟨by omega, hd⟩]; rfl
            · rw [if_neg (by simp [hd]), if_neg (fun h => hd h.2)]; rfl
        | «syntax» =>
          cases hu : udec 9223372036854775807 (c :: r) with
          | none => rfl
          | some u =>
            obtain ⟨h1, h2⟩ := udec_some.1 hu
            rw [h2, hmag.2 ⟨dec_ne u, dv_dec u, by omega⟩] at hm
            cases hm
        | range =>
          cases hu : udec 9223372036854775807 (c :: r) with
          | none => rfl
          | some u =>
            obtain ⟨h1, h2⟩ := udec_some.1 hu
            rw [h2, hmag.2 ⟨dec_ne u, dv_dec u, by omega⟩] at hm
            cases hm
end Go.Proofs.YtglgipggefpoiaaGreatDoor.SF
end
section
namespace Go.Proofs.YtglgipggefpoiaaGreatDoor.SF
open Go.RowKit Go.Sx Go.Proofs.YtglgipggefpoiaaGreatDoor.PAll Go.Proofs.YtglgipggefpoiaaGreatDoorW.PrintWords Go.Proofs.YtglgipggefpoiaaGreatDoorW.PrintLast Go.Proofs.YtglgipggefpoiaaGreatDoorW.PrintMore
set_option linter.unusedVariables false
set_option linter.unusedSimpArgs false
set_option maxRecDepth 100000
def c49 (e : S49) : List Value := [.int .i64 e.f0, .int .i64 e.f1, .int .i64 e.f2]
theorem c49_at : ∀ {L : List S49} {j i : Nat} {e : S49} {u : Value}, L[j]? = some e → (c49 e)[i]? = some u → (L.flatMap c49)[j * 3 + i]? = some u
  | [], j, i, e, u, h, _ => by simp at h
  | x :: L, 0, i, e, u, h, hu => by
    cases h
    have hi : i < 3 := (List.getElem?_eq_some_iff.1 hu).1
    rw [List.flatMap_cons, Nat.zero_mul, Nat.zero_add, List.getElem?_append_left (by simpa [c49] using hi)]
    exact hu
  | x :: L, j + 1, i, e, u, h, hu => by
    have := c49_at (L := L) (j := j) (by simpa using h) hu
    rw [List.flatMap_cons, List.getElem?_append_right (by simp [c49]; omega)]
    rw [show (j + 1) * 3 + i - (c49 x).length = j * 3 + i by simp [c49]; omega]
    exact this
theorem rowE_of {w : World} {A : Option Addr} {n c : Nat} {L : List S49} (h : w.ownsRow 0 49 3 (.slice A n c) n (L.flatMap c49)) (hn : n = L.length) (hb : L.length ≤ 1000000) : RowE w (A, c) L := by
  subst hn
  rcases h.2 with ⟨e, e0⟩ | ⟨g, cap, cur, e, hg, hh, hle, hm, hs, ht⟩
  · have : L = [] := List.eq_nil_of_length_eq_zero e0
    subst this
    exact ⟨Nat.zero_le _, rfl, by decide, fun h => absurd h (by decide)⟩
  · cases e
    refine ⟨hle, rfl, by omega, fun _ => ⟨_, rfl, fun j x hx => ⟨c49 x, rfl, k49_mk w x, fun i u hu => ?_⟩⟩⟩
    have h1 := c49_at hx hu
    rw [← ht, List.getElem?_take] at h1
    split at h1
    · show w.cell? ((⟨g, 0, none⟩ : Addr).add (j * 3 + i)) = some u
      rw [Addr.add_lit, Nat.zero_add, cell_of_row w g _ cur 49 (0, 0) hh]; simpa using h1
    · cases h1
theorem rowE_nil (w : World) : RowE w (none, 0) [] := ⟨Nat.zero_le _, rfl, by decide, fun h => absurd h (by decide)⟩
theorem strsG_of {w : World} {b : Nat} {ws : List ByteArray} (h : StrsAt w (some ⟨b, 0, none⟩) ws) : StrsG b w (some ⟨b, 0, none⟩) ws := fun hne => by
  obtain ⟨b2, o, e, hc⟩ := h hne
  cases e
  exact ⟨0, rfl, hc⟩
end Go.Proofs.YtglgipggefpoiaaGreatDoor.SF
end
