-- Written by myprint.py: the kit's print.py over this seat's translation, with contracts of my own.
import Derived.Test.YtdlmnaoaninkaaaPAllx0
import Derived.Test.YtdlmnaoaninkaaaPAllx1
namespace Go.Proofs.Ytdlmnaoaninkaaa.PAll
open Go.RowKit Go.Proofs.YtdlmnaoaninkaaaW.PrintWords Go.Proofs.YtdlmnaoaninkaaaW.PrintLast Go.Proofs.YtdlmnaoaninkaaaW.PrintMore
attribute [local go_sem] max2_int min2_int max_two min_two max_three min_three max_four min_four   -- for this text's walks alone
set_option linter.unusedVariables false
set_option linter.unusedSimpArgs false

/-! ### octet_Get: function 15 -/
section
open Go.Shelf

/-- What a round keeps: what lay below n₀, and the two captured boxes. -/
def ChK (n₀ Bs Bn : Nat) (W W' : World) : Prop := Below n₀ W W' ∧ W'.heap[Bs]? = W.heap[Bs]? ∧ W'.heap[Bn]? = W.heap[Bn]?
theorem ChK.t {n₀ Bs Bn : Nat} {A B C : World} (h : ChK n₀ Bs Bn A B) (k : ChK n₀ Bs Bn B C) : ChK n₀ Bs Bn A C := ⟨h.1.trans k.1, k.2.1.trans h.2.1, k.2.2.trans h.2.2⟩
theorem ChK.b {n₀ Bs Bn : Nat} {w : World} (hn : n₀ ≤ w.heap.size) (hs : Bs < w.heap.size) (hm : Bn < w.heap.size) (W : World) (l : Nat) (o o' : Obj) (hl : w.heap.size ≤ l) (h : W.heap[l]? = some o) (hc : o.isCells = false) (hw : o.isWalk = false) : ChK n₀ Bs Bn W (W.putObj l o') :=
  ⟨belowK_b hn W l o o' hl h hc hw, World.putObj_heap_other (by omega), World.putObj_heap_other (by omega)⟩

section
attribute [local go_sem] Oper.semAt_some
set_option maxRecDepth 100000 in
set_option maxHeartbeats 2000000 in
theorem chunk1_in (n : Nat) (hn : 1 ≤ n) (l Bs Bn n₀ b off sz m cap : Nat) (hsz : 0 < sz) (hsz8 : sz ≤ 8) (hreach : m * sz ≤ 1099511627776) (hcap : m * sz ≤ cap) (J Jx : Nat → World → Prop)
    (hY : ∀ k W, k < m → J k W → YieldAt Fence.wide (n - 1) Try.prog l #[.slice (some ⟨b, off + k * sz, none⟩) sz sz] W fun e W' =>
      (e = .returned (.bool true) ∧ J (k + 1) W' ∧ ChK n₀ Bs Bn W W') ∨ (e = .returned (.bool false) ∧ Jx (k + 1) W'))
    (hJd : ∀ k W q, J k W → J k (World.drewN W q)) (W : World) (A : Option Addr) (hA : 0 < m → A = some ⟨b, off, none⟩) (hBs : Boxed W Bs 26 (.slice A (m * sz) cap)) (hBn : Boxed W Bn 3 (.int .i64 sz)) (h0 : J 0 W) :
    CallsIn Fence.wide n Try.prog 24 #[.func (.yield l) #[] #[], .pointer (some ⟨Bs, 0, none⟩), .pointer (some ⟨Bn, 0, none⟩)] W fun e W' => (∃ v, e = .returned v) ∧
      (J m W' ∨ (∃ k, k ≤ m ∧ Jx k W')) := by
  refine callsIn_of_wp Try.func24 rfl trivial ?_ rfl
  simp only [Try.ntmps24, List.size_toArray, List.length_cons, List.length_nil, Nat.reduceAdd, Nat.reduceSub, Array.replicate_succ, Array.replicate_zero, List.push_toArray, List.append_toArray, List.nil_append, List.cons_append]
  gi_wp2
  gi_loopw [4] (fun i wr => ∃ k : Nat, k ≤ m ∧ i = .int .i64 (k * sz : Nat) ∧ J k wr ∧ ChK n₀ Bs Bn W wr)
    (fun i _ => m * sz - (intOf i).toNat)
  case atStart => exact ⟨0, Nat.zero_le _, by simp, h0, Below.refl _ _, rfl, rfl⟩
  case round =>
    obtain ⟨k, hk, rfl, hJs, hnx⟩ := hrel
    have hs1 : Boxed wr Bs 26 (.slice A (m * sz) cap) := hnx.2.1.trans hBs
    have hn1 : Boxed wr Bn 3 (.int .i64 sz) := hnx.2.2.trans hBn
    have hcs := hs1.cell
    have hcn := hn1.cell
    by_cases hlt : k < m
    · obtain rfl := hA (by omega)
      have hks : k * sz + sz ≤ m * sz := by rw [← Nat.succ_mul]; exact Nat.mul_le_mul_right _ hlt
      generalize hM : m * sz = M at *
      generalize hK : k * sz = K at *
      have HM := Lib.hid hM
      have HK := Lib.hid hK
      clear hM hK
      have hmin : min sz (M - K) = sz := by omega
      have hminI : min (sz : Int) ((M : Int) - (K : Int)) = sz := by omega
      gi_wp2
      gi_quiet (fail)
      obtain ⟨fn, tmps, assign, body, hy, hR⟩ := hY k (wr.drewN nq) hlt (hJd _ _ _ hJs)
      rw [HK.out] at hy
      have hnx2 : ChK n₀ Bs Bn wr (wr.drewN nq) := ⟨pw_below_drewN (Below.refl _ _) _, rfl, rfl⟩
      have e1 : K + sz - K = sz := by omega
      have hnx0 := Aside0.mk hnx
      clear hY hnx
      gi_wp2
      refine hR.mono ?_
      rintro e W3 (⟨rfl, hJ3, hk3⟩ | ⟨rfl, hJx3⟩)
      · have hn3 : Boxed W3 Bn 3 (.int .i64 sz) := hk3.2.2.trans ((hnx2.2.2).trans hn1)
        have hcn3 := hn3.cell
        clear e1
        gi_wp2
        go_roundw
        case rel => exact ⟨k + 1, by omega, by rw [Nat.succ_mul, HK.out]; simp, hJ3, ChK.t hnx0.out (ChK.t hnx2 hk3)⟩
        case measure => simp [intOf]; omega
      · gi_wp2
        refine bodyPost_ret (results_none rfl _ _ _) rfl ?_
        exact ⟨⟨_, rfl⟩, .inr ⟨k + 1, by omega, hJx3⟩⟩
    · obtain rfl : k = m := by omega
      gi_wp2
      go_end0
      exact ⟨⟨_, rfl⟩, .inl hJs⟩

theorem chunk_in (n : Nat) (A : Option Addr) (len cap sz : Nat) (h1 : 1 ≤ sz) (h8 : sz ≤ 8) (w : World) :
    CallsIn Fence.wide n Try.prog 22 #[.slice A len cap, .int .i64 sz] w fun e w' => e = .returned (.func (.func 24) #[] #[.pointer (some ⟨w.heap.size, 0, none⟩), .pointer (some ⟨w.heap.size + 1, 0, none⟩)]) ∧
      w' = (w.alloc (.cells #[.slice A len cap] 26)).alloc (.cells #[.int .i64 sz] 3) := by
  have hd : decide ((sz : Int) < 1) = false := decide_eq_false (by omega)
  have hd2 : decide (sz < 1) = false := decide_eq_false (by omega)
  refine callsIn_of_wp Try.func22 rfl trivial ?_ rfl
  simp only [Try.ntmps22, List.size_toArray, List.length_cons, List.length_nil, Nat.reduceAdd, Nat.reduceSub, Array.replicate_succ, Array.replicate_zero, List.push_toArray, List.append_toArray, List.nil_append, List.cons_append]
  gi_wp2
  go_ret
  exact ⟨rfl, rfl⟩

theorem grownBy_drewN (W : World) (q : Nat) : W.grownBy (W.drewN q) none := ⟨rfl, rfl, rfl, Nat.le_refl _, fun _ _ _ => rfl⟩

theorem chunk_stops (n : Nat) (hn : 1 ≤ n) (Bs Bn n₀ b off sz m cap : Nat) (hsz : 0 < sz) (hsz8 : sz ≤ 8) (hreach : m * sz ≤ 1099511627776) (hcap : m * sz ≤ cap) (A : Option Addr) (hA : 0 < m → A = some ⟨b, off, none⟩)
    (w : World) (hBs : Boxed w Bs 26 (.slice A (m * sz) cap)) (hBn : Boxed w Bn 3 (.int .i64 sz)) :
    SeqStopsK Fence.wide n Try.prog 24 #[.pointer (some ⟨Bs, 0, none⟩), .pointer (some ⟨Bn, 0, none⟩)] (fun x : Fin m => #[Value.slice (some ⟨b, off + x.val * sz, none⟩) sz sz]) (ChK n₀ Bs Bn) (fun ys => ys = List.finRange m) (fun _ => True) m w := fun l J Jx W hW hJ _ hY h0 => by
  have tk : ∀ k (hk : k < m), (List.finRange m).take (k + 1) = (List.finRange m).take k ++ [⟨k, hk⟩] := fun k hk => by
    rw [List.take_succ_eq_append_getElem (by simpa using hk)]; simp
  refine (chunk1_in n hn l Bs Bn n₀ b off sz m cap hsz hsz8 hreach hcap (fun k => J ((List.finRange m).take k)) (fun k => Jx ((List.finRange m).take k)) (fun k W1 hk hj => ?_) (fun pre W q hj => hJ _ W _ none hj (grownBy_drewN W q) (fun r e => by cases e)) W A hA ((hW.block Bs hBs.lt).trans hBs) ((hW.block Bn hBn.lt).trans hBn) h0).mono ?_
  · simp only [tk k hk]
    exact hY _ ⟨k, hk⟩ W1 hj (by rw [List.length_take, List.length_finRange]; omega)
  · rintro e W' ⟨he, hj | ⟨k, _, hj⟩⟩
    · exact ⟨he, .inl ⟨_, by rw [List.take_of_length_le (by simp)], hj⟩⟩
    · exact ⟨he, .inr ⟨_, trivial, hj⟩⟩

theorem get_infoE : (Try.prog.info? 25).map (fun i => (i.zero, i.size, i.bytes)) = some (some (.int .u64 0), 1, 8) := by kernel_rfl

def leNum : List Int → Int
  | [] => 0
  | b :: r => b + 256 * leNum r
def gets (sz m : Nat) (l : List Int) : List Int := (List.range m).map fun j => leNum ((l.drop (j * sz)).take sz)

theorem leNum_lt (l : List Int) (h : ∀ x ∈ l, 0 ≤ x ∧ x ≤ 255) : 0 ≤ leNum l ∧ leNum l < 256 ^ l.length := by
  induction l with
  | nil => simp [leNum]
  | cons a r ih =>
    have h1 := h a (List.mem_cons_self ..)
    obtain ⟨h2, h3⟩ := ih (fun x hx => h x (List.mem_cons_of_mem _ hx))
    simp only [leNum, List.length_cons, Int.pow_succ]
    omega
theorem leNum_snoc (l : List Int) (z : Int) : leNum (l ++ [z]) = leNum l + z * 256 ^ l.length := by
  induction l with
  | nil => simp [leNum]
  | cons a r ih => simp only [List.cons_append, leNum, ih, List.length_cons, Int.pow_succ]; rw [Int.mul_add, ← Int.mul_assoc, Int.mul_comm 256 z, Int.mul_assoc z, Int.mul_comm 256 (256 ^ r.length), Int.add_assoc]
theorem pow_256 (k : Nat) : (256 : Int) ^ k = 2 ^ (8 * k) := by rw [Int.pow_mul]; rfl
theorem wraps_u64 (n : Int) (h0 : 0 ≤ n) (h1 : n < 2 ^ 64) : IntKind.u64.wrap n = n := by
  simp only [IntKind.wrap, IntKind.signed, IntKind.bits]
  simp
  omega
/-- What one more byte does. -/
theorem get_step (l : List Int) (X k : Nat) (z : Int) (hk : k < 8) (hz : l[X + k]? = some z) (hb : ∀ x ∈ l, 0 ≤ x ∧ x ≤ 255) :
    bits BinOp.or IntKind.u64 (leNum ((l.drop X).take k)) (IntKind.u64.wrap (z * 2 ^ (8 * k))) = leNum ((l.drop X).take (k + 1)) := by
  have hz2 := hb z (List.mem_of_getElem? hz)
  have hd : (l.drop X)[k]? = some z := by rw [List.getElem?_drop]; exact hz
  have htk : (l.drop X).take (k + 1) = (l.drop X).take k ++ [z] := by rw [List.take_add_one, hd]; rfl
  have hlt : k < (l.drop X).length := (List.getElem?_eq_some_iff.1 hd).1
  have hlen : ((l.drop X).take k).length = k := by rw [List.length_take]; omega
  obtain ⟨h2, h3⟩ := leNum_lt ((l.drop X).take k) (fun x hx => hb x (List.mem_of_mem_drop (List.mem_of_mem_take hx)))
  rw [hlen, pow_256] at h3
  rw [htk, leNum_snoc, hlen, pow_256]
  generalize leNum ((l.drop X).take k) = N at *
  have hp : (2 : Int) ^ (8 * k) * 256 ≤ 2 ^ 64 := by
    have e : (2 : Int) ^ (8 * k) * 256 = 2 ^ (8 * k + 8) := by rw [Int.pow_add]; rfl
    rw [e]
    exact_mod_cast Nat.pow_le_pow_right (by decide : 0 < 2) (by omega : 8 * k + 8 ≤ 64)
  have hp0 : (0 : Int) < 2 ^ (8 * k) := Int.pow_pos (by decide)
  have hw : IntKind.u64.wrap (z * 2 ^ (8 * k)) = z * 2 ^ (8 * k) := wraps_u64 _ (Int.mul_nonneg hz2.1 (Int.le_of_lt hp0)) (by
    have : z * 2 ^ (8 * k) ≤ 255 * 2 ^ (8 * k) := Int.mul_le_mul_of_nonneg_right hz2.2 (Int.le_of_lt hp0)
    omega)
  rw [hw]
  obtain ⟨a, rfl⟩ := Int.eq_ofNat_of_zero_le h2
  obtain ⟨c, rfl⟩ := Int.eq_ofNat_of_zero_le hz2.1
  have ha : a < 2 ^ (8 * k) := by exact_mod_cast h3
  have hc : c * 2 ^ (8 * k) < 2 ^ 64 := by
    have h5 : c * 2 ^ (8 * k) ≤ 255 * 2 ^ (8 * k) := Nat.mul_le_mul_right _ (by omega)
    have h6 : 2 ^ (8 * k) * 256 ≤ 2 ^ 64 := by
      rw [show (256 : Nat) = 2 ^ 8 by rfl, ← Nat.pow_add]; exact Nat.pow_le_pow_right (by decide) (by omega)
    omega
  have ha2 : a < 2 ^ 64 := Nat.lt_of_lt_of_le ha (Nat.pow_le_pow_right (by decide) (by omega))
  rw [show ((c : Int) * 2 ^ (8 * k)) = ((c * 2 ^ (8 * k) : Nat) : Int) by simp, (bits_nat .u64 64 (by decide) wraps_u64 a _ ha2 hc).2, Nat.or_comm, Nat.mul_comm c, ← Nat.two_pow_add_eq_or_of_lt ha c]
  simp [Int.add_comm, Int.mul_comm]

set_option maxRecDepth 100000 in
set_option maxHeartbeats 4000000 in
theorem get_in (n : Nat) (hn : 3 ≤ n) (sz m : Nat) (h1 : 1 ≤ sz) (h8 : sz ≤ 8) (hreach : m * sz ≤ 1099511627776) (A : Option Addr) (cap : Nat) (l : List Int) (hl : l.length = m * sz) (hcap : m * sz ≤ cap) (hb : ∀ x ∈ l, 0 ≤ x ∧ x ≤ 255) (w : World) (hr : Kd.C (Kd.int .u8) w A (m * sz) l) :
    CallsIn Fence.wide n Try.prog 15 #[.int .i64 sz, .slice A (m * sz) cap] w fun e W' => ∃ v, e = .returned (.tuple #[v, .int .i64 0]) ∧ W'.ownsRow w.heap.size 25 1 v (gets sz m l).length (nums .u64 (gets sz m l)) ∧ Below w.heap.size w W' := by
  obtain ⟨i0, hi, hz0, hz1, hz2⟩ := info_parts get_infoE
  have hmay : ∀ W : World, CallsIn (Fence.wide) (n - 1) Try.prog 21 #[.int .i64 sz] W fun e W' => e = .returned (.bool true) ∧ ∃ q, W' = W.drewN q := fun W =>
    callsIn_wide.2 ((octet_may.calls sz true W (by unfold octet_may.f; rw [if_pos (by omega), decide_eq_true (by omega)])).mono fun e W' h => ⟨h.1, h.2.out⟩)
  generalize hM : m * sz = M at *
  have HM := Lib.hid hM
  have hrem : (M : Int) % (sz : Int) = 0 := by
    rw [← hM]; simp
  clear hM
  refine callsIn_of_wp_marks Try.func15 rfl trivial ?_ rfl
  simp only [Try.ntmps15, List.size_toArray, List.length_cons, List.length_nil, Nat.reduceAdd, Nat.reduceSub, Array.replicate_succ, Array.replicate_zero, List.push_toArray, List.append_toArray, List.nil_append, List.cons_append]
  gi_wp2_with (first | (refine ⟨trivial, (fun h_ => by cases h_), ?_⟩; gi_at_call 21; refine (hmay _).mono ?_; rintro e w' ⟨rfl, q, rfl⟩) | (refine ⟨trivial, (fun h_ => by cases h_), ?_⟩; gi_at_call 22; refine (chunk_in (n - 1) A M cap sz h1 h8 _).mono ?_; rintro e w' ⟨rfl, rfl⟩))
  have bO := Boxed.new (w.drewN q) 22 (.slice none 0 0)
  have bS := Boxed.new ((w.drewN q).alloc (.cells #[.slice none 0 0] 22)) 26 (.slice A M cap)
  have bN := Boxed.new (((w.drewN q).alloc (.cells #[.slice none 0 0] 22)).alloc (.cells #[.slice A M cap] 26)) 3 (.int .i64 sz)
  simp only [World.size_alloc] at bO bS bN
  replace bO : Boxed _ w.heap.size 22 (.slice none 0 0) := bO
  replace bS : Boxed _ (w.heap.size + 1) 26 (.slice A M cap) := bS
  replace bN : Boxed _ (w.heap.size + 1 + 1) 3 (.int .i64 sz) := bN
  have hB0 : Below w.heap.size w ((((w.drewN q).alloc (.cells #[.slice none 0 0] 22)).alloc (.cells #[.slice A M cap] 26)).alloc (.cells #[.int .i64 sz] 3)) :=
    below_alloc (below_alloc (below_alloc (pw_below_drewN (Below.refl _ _) q) _) _) _
  have hsize : ((((w.drewN q).alloc (.cells #[.slice none 0 0] 22)).alloc (.cells #[.slice A M cap] 26)).alloc (.cells #[.int .i64 sz] 3)).heap.size = w.heap.size + 3 := by simp
  have bO' := (bO.alloc (.cells #[.slice A M cap] 26)).alloc (.cells #[.int .i64 sz] 3)
  have bS' := bS.alloc (.cells #[.int .i64 sz] 3)
  generalize hW0 : (((w.drewN q).alloc (.cells #[.slice none 0 0] 22)).alloc (.cells #[.slice A M cap] 26)).alloc (.cells #[.int .i64 sz] 3) = W0 at *
  clear hW0
  obtain ⟨b, off, hA⟩ : ∃ b off, 0 < m → A = some ⟨b, off, none⟩ := by
    rcases Nat.eq_zero_or_pos m with h0 | h0
    · exact ⟨0, 0, fun h => by omega⟩
    · have hMp : 0 < M := by rw [← HM.out]; exact Nat.mul_pos h0 h1
      obtain ⟨ad, hA, hc⟩ := hr.2.2 hMp
      have hne : 0 < l.length := by omega
      obtain ⟨cs, hcl, hK, hcell⟩ := hc 0 _ (List.getElem?_eq_getElem hne)
      have hcs : cs = [.int .u8 l[0]] := hK
      subst hcs
      have := hcell 0 _ rfl
      obtain ⟨bb, oo, ss⟩ := ad
      cases ss with
      | none => exact ⟨bb, oo, fun _ => hA⟩
      | some z => simp [World.cell?, Addr.add] at this; split at this <;> simp_all
  have hcells : ∀ j, j < M → ∃ x, l[j]? = some x ∧ w.cell? ⟨b, off + j, none⟩ = some (.int .u8 x) := fun j hj => by
    have hm0 : 0 < m := by
      rcases Nat.eq_zero_or_pos m with h0 | h0
      · rw [h0, Nat.zero_mul] at HM; have := HM.out; omega
      · exact h0
    obtain ⟨ad, hA', hc⟩ := hr.2.2 (by omega)
    rw [hA hm0] at hA'
    cases hA'
    have hjl : j < l.length := by omega
    obtain ⟨cs, hcl, hK, hcell⟩ := hc j _ (List.getElem?_eq_getElem hjl)
    have hcs : cs = [.int .u8 l[j]] := hK
    subst hcs
    refine ⟨l[j], List.getElem?_eq_getElem hjl, ?_⟩
    have h3 := hcell 0 _ rfl
    rwa [show j * (Kd.int .u8).sz + 0 = j from by simp [Kd.int, Kd.scalar], WideShapes.add_plain] at h3
  refine wpIn_rangeFunc_ownG rfl (by omega) (gf := 24) (lb := #[.pointer (some ⟨w.heap.size + 1, 0, none⟩), .pointer (some ⟨w.heap.size + 1 + 1, 0, none⟩)]) rfl trivial (enters_of Try.func24 (by kernel_rfl) rfl)
    (chunk_stops (n - 1) (by omega) (w.heap.size + 1) (w.heap.size + 1 + 1) w.heap.size b off sz m cap h1 h8 (by rw [HM.out]; exact hreach) (by rw [HM.out]; exact hcap) A hA W0 (by rw [HM.out]; exact bS') bN) ChK.t (ChK.b (by omega) (by omega) (by omega)) (Below.refl _ _) (fun _ => rfl)
    (fun (pre : List (Fin m)) W => (∃ v, Boxed W w.heap.size 22 v ∧ W.ownsRow w.heap.size 25 1 v pre.length (nums .u64 (pre.map fun j => leNum ((l.drop (j.val * sz)).take sz))) ∧ True) ∧ (Below w.heap.size w W ∧ (Boxed W (w.heap.size + 1) 26 (.slice A M cap) ∧ Boxed W (w.heap.size + 1 + 1) 3 (.int .i64 sz))))
    (fun _ _ _ => False)
    (OwnFrom.and (Own.from (holdsRow_own w.heap.size w.heap.size 22 25 1 (fun pre : List (Fin m) => pre.length) (fun pre : List (Fin m) => nums .u64 (pre.map fun j => leNum ((l.drop (j.val * sz)).take sz))) (fun pre v => True)) _) (OwnFrom.and (ownFrom_below (Nat.le_refl _) (by omega)) (OwnFrom.and (Own.from (boxed_own _ _ (fun _ => _)) _) (Own.from (boxed_own _ _ (fun _ => _)) _))))
    (fun _ _ _ _ _ hs _ _ => hs)
    ⟨⟨_, bO', World.ownsRow_nil _ _ _ _, trivial⟩, hB0, bS', bN⟩
    (fun x => { tmps := #[.int .i64 sz, .slice A M cap, undef, undef, .slice none 0 0, .int .i64 0, .pointer (some ⟨w.heap.size, 0, none⟩), .slice (some ⟨b, off + x.val * sz, none⟩) sz sz, undef, undef, undef, .bool false, .int .i64 sz, .bool true, .bool false, .bool false, .slice A M cap, .int .i64 M, .int .i64 sz, .int .i64 0, .bool false, .slice A M cap, .int .i64 sz, .func (.func 24) #[] #[.pointer (some ⟨w.heap.size + 1, 0, none⟩), .pointer (some ⟨w.heap.size + 1 + 1, 0, none⟩)], .slice (some ⟨b, off + x.val * sz, none⟩) sz sz, undef, undef, undef, undef, undef, undef, undef, undef, undef, undef, undef, undef, undef, undef, undef, undef, undef, undef, undef, undef], defers := [] }) ?assign ?body ?done ?stop
  case assign =>
    intro l x W K hK
    gi_wp2
    exact hK
  case body =>
    rintro l0 pre x W ⟨⟨v, hv, hrow, -⟩, hB, bS2, bN2⟩ hlt
    have hc := hv.cell
    have hxm : x.val * sz + sz ≤ M := by rw [← HM.out, ← Nat.succ_mul]; exact Nat.mul_le_mul_right _ x.isLt
    have hcx : ∀ j, j < sz → ∃ z, l[x.val * sz + j]? = some z ∧ W.cell? ⟨b, off + x.val * sz + j, none⟩ = some (.int .u8 z) := fun j hj => by
      obtain ⟨z, h3, h4⟩ := hcells (x.val * sz + j) (by omega)
      exact ⟨z, h3, by rw [Nat.add_assoc]; exact (hB.cell (World.block_lt_of_cell? w _ h4)).trans h4⟩
    generalize hX : x.val * sz = X at *
    have HX := Lib.hid hX
    clear hX
    have hbx : ∀ j z, l[X + j]? = some z → 0 ≤ z ∧ z ≤ 255 := fun j z hz => hb z (List.mem_of_getElem? hz)
    gi_wp2
    gi_loopw [8, 27] (fun xv i wr => ∃ k : Nat, k ≤ sz ∧ i = .int .i64 k ∧ xv = .int .u64 (leNum ((l.drop X).take k)) ∧ wr = W) (fun _ i _ => sz - (intOf i).toNat)
    case atStart => exact ⟨0, Nat.zero_le _, by simp, by simp [leNum], rfl⟩
    case round =>
      obtain ⟨k, hk, rfl, rfl, rfl⟩ := hrel
      by_cases hks : k < sz
      · obtain ⟨z, hz, hcz⟩ := hcx k hks
        have hz2 := hbx k z hz
        clear hcx hbx
        have hgs := get_step l X k z (by omega) hz hb
        gi_wp2
        go_roundw
        case rel => exact ⟨k + 1, by omega, by go_num, rfl, trivial⟩
        case measure => simp [intOf]; omega
      · obtain rfl : k = sz := by omega
        clear hcx hbx
        have hmM : m ≤ M := by rw [← HM.out]; exact Nat.le_mul_of_pos_right _ h1
        gi_wp2_with (gi_at_builtin; refine wpListIn_append_own _ rfl _ _ 22 rfl w.heap.size 25 i0 (.int .u64 0) 1 8 Try.underlying22 hi hz0 hz1 hz2 rfl (by decide) _ _ _ rfl (hrow.alloc _) ⟨wr.heap.size, 0, none⟩ 1 1 [.int .u64 (leNum (List.take k (List.drop X l)))] rfl rfl (cell_one_new _ _ _) (by simp [Value.oneCell']) (by simp only [maxLen]; omega) (by omega) (by have := hB.size; simp; omega) ?_; intro v' w1 hown' hgrow _; obtain ⟨g', cap', rfl⟩ := ownsRow_succ hown'; obtain ⟨hv1, hv2, hr2, hk2, hb2⟩ := hv.appended (by decide) hrow hB.size (Nat.le_refl _) hown' hgrow; have hc1 := hv1.cell; have hf1 := hv1.frozen)
        have hgX : leNum (List.take k (List.drop X l)) = leNum ((l.drop (x.val * k)).take k) := by rw [HX.out]
        have e1 : Boxed w1 (w.heap.size + 1) 26 (.slice A M cap) := (bS2.alloc _).kept hgrow (bS2.not_row (by decide) hrow)
        have e2 : Boxed w1 (w.heap.size + 1 + 1) 3 (.int .i64 k) := (bN2.alloc _).kept hgrow (bN2.not_row (by decide) hrow)
        have e3 := e1.other (B' := w.heap.size) (by omega) (.slice (some ⟨g', 0, none⟩) (pre.length + 1) cap')
        have e4 := e2.other (B' := w.heap.size) (by omega) (.slice (some ⟨g', 0, none⟩) (pre.length + 1) cap')
        refine ⟨hk2.from _, ⟨hb2, e3.trans bS2.symm, e4.trans bN2.symm⟩, ⟨⟨_, hv2, ?_, trivial⟩, hB.trans hb2, e3, e4⟩⟩
        rw [List.map_append, nums_append, List.length_append]
        simp only [List.map_cons, List.map_nil, ← hgX]
        exact hr2
  case done =>
    rintro D ys W hD rfl ⟨⟨v, hv, hrow, -⟩, hB, -, -⟩ hK
    have hc := hv.cell
    gi_wp2
    refine ⟨by simp, .inl ⟨_, _, rfl, run_takeDeferred hK, ?_⟩⟩
    have hgl : (gets sz m l).length = (List.finRange m).length := by simp [gets]
    have hge : gets sz m l = (List.finRange m).map fun j => leNum ((l.drop (j.val * sz)).take sz) := by
      unfold gets; apply List.ext_getElem <;> simp
    exact ⟨_, results_tmp2 rfl _ _ _, v, rfl, by rw [hgl, hge]; exact ownsRow_putObj hrow _ hK rfl, hB.trans (belowK_b (w := w) (Nat.le_refl _) W D _ _ (by have := hB0.size; omega) hK rfl rfl)⟩
  case stop =>
    rintro D c pre W _ _ h _
    exact h.elim

/-- octet.Get, in plain words: numbers of so many bytes each, the lowest byte first. -/
def octet_Get.f (a0 : Int) (l1 : List Int) : Option (List Int × Int) :=
  if a0 < 1 ∨ 8 < a0 then some ([], 1)
  else if (l1.length : Int) % a0 ≠ 0 then some ([], 10)
  else if l1.length ≤ 1099511627776 ∧ ∀ x ∈ l1, 0 ≤ x ∧ x ≤ 255 then some (gets a0.toNat (l1.length / a0.toNat) l1, 0) else none
end
set_option maxRecDepth 100000 in
set_option maxHeartbeats 4000000 in
theorem octet_Get.calls (a0 : Int) (A1 : Option Addr) (c1 : Nat) (l1 : List Int) (r1 : List Int) (r2 : Int) (w : World) (hr1 : Kd.C (Kd.int .u8) w A1 l1.length l1) (hc1 : l1.length ≤ c1) (h : octet_Get.f a0 l1 = some (r1, r2)) :
    Calls Try.prog 15 #[.int .i64 a0, .slice A1 l1.length c1] w fun e w' => ∃ v0_ : Value, e = .returned (.tuple #[v0_, .int .i64 r2]) ∧ Kd.R (Kd.int .u64) 25 w' w.heap.size (fun _ => True) v0_ r1 ∧ Below w.heap.size w w' := by
  unfold octet_Get.f at h
  have hmay : ∀ (b : Bool) (W : World), octet_may.f a0 = some b → Calls Try.prog 21 #[.int .i64 a0] W fun e W' => e = .returned (.bool b) ∧ ∃ q, W' = W.drewN q := fun b W hb =>
    (octet_may.calls a0 b W hb).mono fun e W' h => ⟨h.1, h.2.out⟩
  have hl := hr1.2.1
  by_cases h1 : a0 < 1 ∨ 8 < a0
  · rw [if_pos h1] at h
    simp only [Option.some.injEq, Prod.mk.injEq] at h
    obtain ⟨rfl, rfl⟩ := h
    have hm := fun W => hmay false W (by unfold octet_may.f; rcases h1 with h1 | h1; · rw [if_neg (by omega)]
                                         · rw [if_pos (by omega), decide_eq_false (by omega)])
    clear h1 hmay
    go_enter Try.func15, Try.ntmps15
    go_wp2_with (first | (go_at_call 21; refine (hm _).mono ?_; rintro e w' ⟨rfl, q, rfl⟩))
    go_ret2
    exact ⟨_, rfl, Kd.R_nil _ _ _ _ _, pw_below_drewN (Below.refl _ _) _⟩
  · rw [if_neg h1] at h
    have hm := fun W => hmay true W (by unfold octet_may.f; rw [if_pos (by omega), decide_eq_true (by omega)])
    by_cases h2 : (l1.length : Int) % a0 ≠ 0
    · rw [if_pos h2] at h
      simp only [Option.some.injEq, Prod.mk.injEq] at h
      obtain ⟨rfl, rfl⟩ := h
      have h3 : 1 ≤ a0 := by omega
      have h4 : a0 ≤ 8 := by omega
      have hq : ((l1.length : Int) % a0 == 0) = false := by simpa using h2
      have hq2 : ((l1.length : Int) % a0 != 0) = true := by simpa using h2
      clear h1 hmay h2
      go_enter Try.func15, Try.ntmps15
      go_wp2_with (first | (go_at_call 21; refine (hm _).mono ?_; rintro e w' ⟨rfl, q, rfl⟩))
      go_ret2
      exact ⟨_, rfl, Kd.R_nil _ _ _ _ _, pw_below_drewN (Below.refl _ _) _⟩
    · rw [if_neg h2] at h
      by_cases h5 : l1.length ≤ 1099511627776 ∧ ∀ x ∈ l1, 0 ≤ x ∧ x ≤ 255
      · rw [if_pos h5] at h
        simp only [Option.some.injEq, Prod.mk.injEq] at h
        obtain ⟨rfl, rfl⟩ := h
        obtain ⟨sz, rfl⟩ := Int.eq_ofNat_of_zero_le (show 0 ≤ a0 by omega)
        have hdv : l1.length / sz * sz = l1.length := Nat.div_mul_cancel (Nat.dvd_of_mod_eq_zero (by omega))
        have H := get_in 5 (by omega) sz (l1.length / sz) (by omega) (by omega) (by omega) A1 c1 l1 hdv.symm (by omega) h5.2 w (by rw [hdv]; exact hr1)
        rw [hdv] at H
        refine (callsIn_wide.1 H).mono ?_
        rintro e W' ⟨v, rfl, ho, hb⟩
        rw [Int.toNat_natCast]
        exact ⟨v, rfl, Kd.R_of_own (enc := Value.int .u64) (h1 := fun _ => rfl) ho (fun _ _ => trivial), hb⟩
      · rw [if_neg h5] at h
        cases h
end

end Go.Proofs.Ytdlmnaoaninkaaa.PAll
