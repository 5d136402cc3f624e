/- Texts of mine, put together (no statement stands here). -/
import Derived.Test.YtglgipggefpoiaaGreatDoorCSPuts10
import Derived.Test.YtglgipggefpoiaaGreatDoorCSPuts11
section
set_option linter.unusedVariables false
set_option linter.unusedSimpArgs false
namespace Go.Proofs.YtglgipggefpoiaaGreatDoor.SF
open Go.RowKit Go.Sx Go.Proofs.YtglgipggefpoiaaGreatDoor.PAll Go.Proofs.YtglgipggefpoiaaGreatDoorW.PrintWords Go.Proofs.YtglgipggefpoiaaGreatDoorW.PrintLast Go.Proofs.YtglgipggefpoiaaGreatDoorW.PrintMore
theorem ba_app (a b : List UInt8) : (⟨(a ++ b).toArray⟩ : ByteArray) = ⟨a.toArray⟩ ++ ⟨b.toArray⟩ := by
  apply ByteArray.ext; simp
theorem ba_assoc (a b c : ByteArray) : a ++ b ++ c = a ++ (b ++ c) := by
  apply ByteArray.ext; simp [Array.append_assoc]
theorem wu64 {n : Int} (h : 0 ≤ n ∧ n < 18446744073709551616) : IntKind.u64.wrap n = n := by
  simp only [IntKind.wrap, IntKind.signed, IntKind.bits]; simp; omega
theorem dig_str {u : Nat} (hu : u < 18446744073709551616) : strOfNums [(IntKind.u64.wrap (48 + (Int.tmod (u : Int) 10))) % 256] = ⟨[UInt8.ofNat (48 + u % 10)].toArray⟩ := by
  have h1 : Int.tmod (u : Int) 10 = ((u % 10 : Nat) : Int) := by rw [Int.tmod_eq_emod_of_nonneg (by omega)]; omega
  rw [h1, wu64 (by omega), show ((48 + ((u % 10 : Nat) : Int)) % 256) = ((48 + u % 10 : Nat) : Int) by omega]
  rfl
theorem uns_l0 : ∀ (n u : Nat) (acc : ByteArray) (k : Nat), 0 < u → u < 18446744073709551616 → Lib.nDigits u ≤ n → n + 1 ≤ k → acc.size + n ≤ 1000 → paternosterref24_Unsigned.l0 k (u : Int) acc = some (ubs u ++ acc)
  | 0, u, acc, k, h0, hu, hn, hk, ha => by have := Lib.nDigits_pos u; omega
  | n + 1, u, acc, k + 1, h0, hu, hn, hk, ha => by
    have hq : Int.tdiv (u : Int) 10 = ((u / 10 : Nat) : Int) := by rw [Int.tdiv_eq_ediv_of_nonneg (by omega)]; omega
    unfold paternosterref24_Unsigned.l0
    rw [if_pos (by omega), Option.bind_some, dig_str hu, hq, wu64 (by omega)]
    have hs : (⟨[UInt8.ofNat (48 + u % 10)].toArray⟩ : ByteArray).size = 1 := rfl
    rw [if_pos (by rw [hs]; omega)]
    by_cases h : u < 10
    · rw [show u / 10 = 0 by omega]
      obtain ⟨k, rfl⟩ : ∃ j, k = j + 1 := ⟨k - 1, by omega⟩
      unfold paternosterref24_Unsigned.l0
      rw [if_neg (by simp), ubs, Lib.decDigits_one h, Nat.mod_eq_of_lt h]
    · rw [uns_l0 n (u / 10) _ k (by omega) (by omega) (by rw [Lib.nDigits_big h] at hn; omega) (by omega) (by rw [ByteArray.size_append, hs]; omega)]
      congr 1
      rw [← ba_assoc]
      congr 1
      have e : Lib.decDigits u = Lib.decDigits (u / 10) ++ [UInt8.ofNat (48 + u % 10)] := by
        conv => lhs; rw [Lib.decDigits]
        rw [dif_neg h]
      rw [ubs, ubs, e, ba_app]
theorem uns_ev {u : Nat} (hu : u < 18446744073709551616) {k : Nat} (hk : 30 ≤ k) : paternosterref24_Unsigned.f k (u : Int) = some (ubs u) := by
  unfold paternosterref24_Unsigned.f
  by_cases h : u = 0
  · subst h; rw [if_pos (by rfl), ubs, Lib.decDigits_one (by decide)]; rfl
  · rw [if_neg (by omega), uns_l0 20 u _ k (by omega) hu (Lib.nDigits_le20 u hu) (by omega) (by decide)]
    congr 1
    apply ByteArray.ext; simp
theorem num_ev {n : Int} (hn : i64r n) {k : Nat} (hk : 30 ≤ k) : paternosterref24_Number.f k n = some (ibs n) := by
  unfold i64r at hn
  unfold paternosterref24_Number.f
  by_cases h : n < 0
  · rw [if_pos h]
    have e1 : wrap64 (n + 1) = n + 1 := by unfold wrap64; omega
    have e2 : wrap64 (-(n + 1)) = -(n + 1) := by unfold wrap64; omega
    rw [e1, e2, wu64 (n := -(n + 1)) (by omega), wu64 (n := -(n + 1) + 1) (by omega), show -(n + 1) + 1 = ((n.natAbs : Nat) : Int) by omega, uns_ev (by omega) hk, Option.bind_some, if_pos (by have := u_len (x := n.natAbs) (by omega); simp [ubs, ByteArray.size]; omega)]
    congr 1
    rw [ibs, Lib.itoa, if_pos h, ← List.singleton_append, ba_app]; rfl
  · rw [if_neg h, wu64 (by omega), show n = ((n.toNat : Nat) : Int) by omega, uns_ev (by omega) hk, Option.bind_some]
    first | rfl | (congr 1; done) | (congr 1; rw [ibs, Lib.itoa, if_neg (by omega), ubs])
end Go.Proofs.YtglgipggefpoiaaGreatDoor.SF
end
section
set_option linter.unusedVariables false
set_option linter.unusedSimpArgs false
namespace Go.Proofs.YtglgipggefpoiaaGreatDoor.SF
open Go.RowKit Go.Sx Go.Proofs.YtglgipggefpoiaaGreatDoor.PAll Go.Proofs.YtglgipggefpoiaaGreatDoorW.PrintWords Go.Proofs.YtglgipggefpoiaaGreatDoorW.PrintLast Go.Proofs.YtglgipggefpoiaaGreatDoorW.PrintMore
def to45 (e : S49) : S45 := ⟨e.f0, e.f1, e.f2⟩
def sp : ByteArray := ⟨#[32]⟩
def tl : List ByteArray → ByteArray
  | [] => ⟨#[]⟩
  | w :: ws => (sp ++ w) ++ tl ws
theorem ba_nil (a : ByteArray) : a ++ (⟨#[]⟩ : ByteArray) = a := by apply ByteArray.ext; simp
theorem ba_nil' (a : ByteArray) : (⟨#[]⟩ : ByteArray) ++ a = a := by apply ByteArray.ext; simp
theorem tl_app : ∀ (a b : List ByteArray), tl (a ++ b) = tl a ++ tl b
  | [], b => by simp [tl, ba_nil']
  | w :: a, b => by rw [List.cons_append, tl, tl, tl_app a b, ba_assoc (sp ++ w)]
theorem kind_ev (k : Int) : paternosterref24_Kind.f k = some ((formAt k).getD (⟨#[]⟩, false, false)) := by
  unfold paternosterref24_Kind.f formAt
  repeat (split; · rfl)
  rfl
theorem formAt_ne {k : Int} {x : ByteArray × Bool × Bool} (h : formAt k = some x) : ¬ x.1.toList = [] := by
  unfold formAt at h
  repeat (split at h; · cases h; simp)
  cases h
theorem ibs_size {x : Int} (h : i64r x) : (ibs x).size ≤ 21 := by
  have := itoa_len h
  simpa [ibs, ByteArray.size] using this
theorem ubs_size {x : Nat} (h : x < 18446744073709551616) : (ubs x).size ≤ 20 := by
  have := u_len h
  simpa [ubs, ByteArray.size] using this
theorem sp_size : (⟨#[32]⟩ : ByteArray).size = 1 := rfl
theorem rput_l0 (m g : Bool) (c b : Int) (l : List S49) (hl : l.length ≤ 1000) (he : ∀ e ∈ l, i64r e.f1 ∧ i64r e.f2) : ∀ (d i : Nat) (acc : ByteArray) (k : Nat), l.length - i = d → i ≤ l.length → acc.size + 100 * d ≤ 1000000 → d + 32 ≤ k →
    paternosterref24_Put.l0 k acc (i : Int) m g c b (l.map to45) = some (acc ++ tl ((l.drop i).flatMap evW))
  | 0, i, acc, k + 1, hd, hi, ha, hk => by
    unfold paternosterref24_Put.l0
    rw [if_neg (by rw [List.length_map]; omega), List.drop_of_length_le (by omega)]
    simp [tl, ba_nil]
  | d + 1, i, acc, k + 1, hd, hi, ha, hk => by
    have hil : i < l.length := by omega
    obtain ⟨e, hle⟩ : ∃ e, l[i]? = some e := ⟨_, List.getElem?_eq_getElem hil⟩
    have hrd : rd_T45 (l.map to45) (i : Int) = to45 e := by
      unfold rd_T45
      rw [Int.toNat_natCast, List.getD_eq_getElem?_getD, List.getElem?_map, hle]; rfl
    have hw : wrap64 ((i : Int) + 1) = ((i + 1 : Nat) : Int) := by unfold wrap64; omega
    have hdr : l.drop i = e :: l.drop (i + 1) := by
      rw [List.drop_eq_getElem_cons hil, (List.getElem?_eq_some_iff.1 hle).2]
    obtain ⟨h1, h2⟩ := he e (List.mem_of_getElem? hle)
    have s1 := ibs_size h1
    have s2 := ibs_size h2
    have n1 := num_ev h1 (k := k) (by omega)
    have n2 := num_ev h2 (k := k) (by omega)
    have ih := fun acc h => rput_l0 m g c b l hl he d (i + 1) acc k (by omega) (by omega) h (by omega)
    unfold paternosterref24_Put.l0
    rw [if_pos (by rw [List.length_map]; omega), if_pos (by omega), hrd, show (to45 e).f0 = e.f0 from rfl, kind_ev, Option.bind_some, hw]
    rw [hdr, List.flatMap_cons, tl_app]
    cases hf : formAt e.f0 with
    | none =>
      rw [if_pos (by simp), ih acc (by omega)]
      simp [evW, hf, tl, ba_nil']
    | some x =>
      obtain ⟨wd, c1, m1⟩ := x
      have hne := formAt_ne hf
      have hws := formAt_len hf
      have ew : evW e = wd :: ((if c1 then [ibs e.f1] else []) ++ (if m1 then [ibs e.f2] else [])) := by unfold evW; rw [hf]
      dsimp only at hne hws
      simp only [Option.getD_some]
      rw [if_neg hne, if_pos (by omega), if_pos (by simp only [ByteArray.size_append, sp_size]; omega)]
      have n1' : paternosterref24_Number.f k (to45 e).f1 = some (ibs e.f1) := n1
      have n2' : paternosterref24_Number.f k (to45 e).f2 = some (ibs e.f2) := n2
      cases c1 <;> cases m1
      · rw [if_neg (by simp), if_neg (by simp), ih _ (by simp only [ByteArray.size_append, sp_size]; omega), ew]
        simp [tl, ba_assoc, ba_nil, ba_nil', sp]
      · rw [if_neg (by simp), if_pos rfl, n2', Option.bind_some, if_pos (by omega), if_pos (by simp only [ByteArray.size_append, sp_size]; omega), ih _ (by simp only [ByteArray.size_append, sp_size]; omega), ew]
        simp [tl, ba_assoc, ba_nil, ba_nil', sp]
      · rw [if_pos rfl, n1', Option.bind_some, if_pos (by omega), if_pos (by simp only [ByteArray.size_append, sp_size]; omega), if_neg (by simp), ih _ (by simp only [ByteArray.size_append, sp_size]; omega), ew]
        simp [tl, ba_assoc, ba_nil, ba_nil', sp]
      · rw [if_pos rfl, n1', Option.bind_some, if_pos (by omega), if_pos (by simp only [ByteArray.size_append, sp_size]; omega), if_pos rfl, n2', Option.bind_some, if_pos (by omega), if_pos (by simp only [ByteArray.size_append, sp_size]; omega), ih _ (by simp only [ByteArray.size_append, sp_size]; omega), ew]
        simp [tl, ba_assoc, ba_nil, ba_nil', sp]
theorem join_tl (w : ByteArray) (ws : List ByteArray) : (⟨(Lib.join ((w :: ws).map (·.data.toList)) [32]).toArray⟩ : ByteArray) = w ++ tl ws := by
  rw [List.map_cons, Lib.join_cons, ba_app]
  congr 1
  induction ws with
  | nil => rfl
  | cons x ws ih =>
    rw [tl, ← ih]
    have : Lib.joinTail [32] ((x :: ws).map (·.data.toList)) = ([32] ++ x.data.toList) ++ Lib.joinTail [32] (ws.map (·.data.toList)) := by simp [Lib.joinTail]
    rw [this, ba_app, ba_app]
    congr 1
theorem rput_ev (m g : Bool) {c : Int} {b : Nat} {l : List S49} (hc : i64r c) (hb : b < 18446744073709551616) (hl : l.length ≤ 1000) (he : ∀ e ∈ l, i64r e.f1 ∧ i64r e.f2) {k : Nat} (hk : 1100 ≤ k) : paternosterref24_Put.f k m g c (b : Int) (l.map to45) = some (putS m g c b l) := by
  obtain ⟨k, rfl⟩ : ∃ j, k = j + 2 := ⟨k - 2, by omega⟩
  have key : ∀ (x3 : ByteArray), x3.size ≤ 100 → paternosterref24_Put.j1 (k + 1) x3 m g c (b : Int) (l.map to45) = some (x3 ++ ((ibs c ++ ⟨#[32]⟩) ++ ubs b) ++ tl (l.flatMap evW)) := by
    intro x3 hx
    have s1 := ibs_size hc
    have s2 := ubs_size hb
    rw [paternosterref24_Put.j1, num_ev hc (k := k) (by omega), Option.bind_some, if_pos (by omega), uns_ev hb (k := k) (by omega), Option.bind_some, if_pos (by simp only [ByteArray.size_append, sp_size]; omega), if_pos (by simp only [ByteArray.size_append, sp_size]; omega)]
    have := rput_l0 m g c b l hl he l.length 0 (x3 ++ ((ibs c ++ ⟨#[32]⟩) ++ ubs b)) k (by omega) (by omega) (by simp only [ByteArray.size_append, sp_size]; omega) (by omega)
    rw [List.drop_zero] at this
    exact this
  have fin : ∀ (a b' : ByteArray), a ++ (tl [b', ibs c, ubs b] ++ tl (l.flatMap evW)) = (a ++ sp ++ (b' ++ sp)) ++ ((ibs c ++ ⟨#[32]⟩) ++ ubs b) ++ tl (l.flatMap evW) := by
    intro a b'
    simp [tl, ba_assoc, ba_nil, ba_nil', sp]
  unfold putS putW headW
  rw [List.cons_append, join_tl, tl_app, fin]
  unfold paternosterref24_Put.f
  cases m <;> cases g <;> simp only [Bool.false_eq_true, if_false, if_true] <;> (rw [paternosterref24_Put.j0]; simp only [Bool.false_eq_true, if_false, if_true]; rw [if_pos (by decide), key _ (by decide)]; rfl)
end Go.Proofs.YtglgipggefpoiaaGreatDoor.SF
end
section
set_option linter.unusedVariables false
set_option linter.unusedSimpArgs false
namespace Go.Proofs.YtglgipggefpoiaaGreatDoor.SF
open Go.RowKit Go.Sx Go.Proofs.YtglgipggefpoiaaGreatDoor.PAll Go.Proofs.YtglgipggefpoiaaGreatDoorW.PrintWords Go.Proofs.YtglgipggefpoiaaGreatDoorW.PrintLast Go.Proofs.YtglgipggefpoiaaGreatDoorW.PrintMore
def isDg (c : UInt8) : Prop := 48 ≤ c.toNat ∧ c.toNat ≤ 57
instance (c : UInt8) : Decidable (isDg c) := inferInstanceAs (Decidable (_ ∧ _))
end Go.Proofs.YtglgipggefpoiaaGreatDoor.SF
end
section
namespace Go.Proofs.YtglgipggefpoiaaGreatDoor.SF
open Go.RowKit Go.Sx Go.Proofs.YtglgipggefpoiaaGreatDoor.PAll Go.Proofs.YtglgipggefpoiaaGreatDoorW.PrintWords Go.Proofs.YtglgipggefpoiaaGreatDoorW.PrintLast Go.Proofs.YtglgipggefpoiaaGreatDoorW.PrintMore
set_option linter.unusedVariables false
set_option linter.unusedSimpArgs false
set_option maxRecDepth 100000
def c49 (e : S49) : List Value := [.int .i64 e.f0, .int .i64 e.f1, .int .i64 e.f2]
theorem c49_at : ∀ {L : List S49} {j i : Nat} {e : S49} {u : Value}, L[j]? = some e → (c49 e)[i]? = some u → (L.flatMap c49)[j * 3 + i]? = some u
  | [], j, i, e, u, h, _ => by simp at h
  | x :: L, 0, i, e, u, h, hu => by
    cases h
    have hi : i < 3 := (List.getElem?_eq_some_iff.1 hu).1
    rw [List.flatMap_cons, Nat.zero_mul, Nat.zero_add, List.getElem?_append_left (by simpa [c49] using hi)]
    exact hu
  | x :: L, j + 1, i, e, u, h, hu => by
    have := c49_at (L := L) (j := j) (by simpa using h) hu
    rw [List.flatMap_cons, List.getElem?_append_right (by simp [c49]; omega)]
    rw [show (j + 1) * 3 + i - (c49 x).length = j * 3 + i by simp [c49]; omega]
    exact this
theorem rowE_of {w : World} {A : Option Addr} {n c : Nat} {L : List S49} (h : w.ownsRow 0 49 3 (.slice A n c) n (L.flatMap c49)) (hn : n = L.length) (hb : L.length ≤ 1000000) : RowE w (A, c) L := by
  subst hn
  rcases h.2 with ⟨e, e0⟩ | ⟨g, cap, cur, e, hg, hh, hle, hm, hs, ht⟩
  · have : L = [] := List.eq_nil_of_length_eq_zero e0
    subst this
    exact ⟨Nat.zero_le _, rfl, by decide, fun h => absurd h (by decide)⟩
  · cases e
    refine ⟨hle, rfl, by omega, fun _ => ⟨_, rfl, fun j x hx => ⟨c49 x, rfl, k49_mk w x, fun i u hu => ?_⟩⟩⟩
    have h1 := c49_at hx hu
    rw [← ht, List.getElem?_take] at h1
    split at h1
    · show w.cell? ((⟨g, 0, none⟩ : Addr).add (j * 3 + i)) = some u
      rw [Addr.add_lit, Nat.zero_add, cell_of_row w g _ cur 49 (0, 0) hh]; simpa using h1
    · cases h1
theorem rowE_nil (w : World) : RowE w (none, 0) [] := ⟨Nat.zero_le _, rfl, by decide, fun h => absurd h (by decide)⟩
theorem strsG_of {w : World} {b : Nat} {ws : List ByteArray} (h : StrsAt w (some ⟨b, 0, none⟩) ws) : StrsG b w (some ⟨b, 0, none⟩) ws := fun hne => by
  obtain ⟨b2, o, e, hc⟩ := h hne
  cases e
  exact ⟨0, rfl, hc⟩
end Go.Proofs.YtglgipggefpoiaaGreatDoor.SF
end
