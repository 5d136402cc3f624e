/- Texts of mine, put together (no statement stands here). -/
import Derived.Test.YtbcijmpkmmcdeaaDoorCJTurns3
import Derived.Test.YtbcijmpkmmcdeaaDoorCJTurns4
import Derived.SizedLaws
import Derived.ChangeArms
import Derived.DataElems
import Derived.DataReads
import Derived.ProofKit
import Derived.OpenShut
import Derived.Test.YtbcijmpkmmcdeaaDoorCJTurns9
import Derived.ChangeSame
import Derived.Test.YtbcijmpkmmcdeaaDoorCJTurns15
section
namespace Go.Proofs.YtbcijmpkmmcdeaaDoor.Op
open Go.RowKit Go.Proofs.YtbcijmpkmmcdeaaDoorW.PrintWords
open Go.ChangeShapes Go.WideShapes
structure Opens {α : Type} (K : Kd α) (P : Program) (t : TypeId) (ok : α → Prop) : Prop where
  sz : P.cellsOf t = K.sz
  op : ∀ {H : Type} {enc : TypeId × Value → H} {w : World} {base : Nat} {spare : Nat → Bool} {held : Bool} {fuel : Nat} {cs : List Value} {x : DataW H × List MemPlace},
    DataW.trod enc P w base spare held fuel t cs = some x → ∃ a, K.K w a cs ∧ ok a
theorem Opens.int {P : Program} {t : TypeId} (k : IntKind) (ht : P.underlying t = some (.int k)) (hc : P.cellsOf t = 1) : Opens (Kd.int k) P t (fun n => (Lit.int k n).wf = true) :=
  ⟨hc, fun h => by obtain ⟨n, rfl, _, hw⟩ := DataW.trod_int ht h; exact ⟨n, rfl, hw⟩⟩
theorem Opens.bool {P : Program} {t : TypeId} (ht : P.underlying t = some .bool) (hc : P.cellsOf t = 1) : Opens Kd.bool P t (fun _ => True) :=
  ⟨hc, fun h => by obtain ⟨b, rfl, _⟩ := DataW.trod_bool ht h; exact ⟨b, rfl, trivial⟩⟩
theorem Opens.string {P : Program} {t : TypeId} (ht : P.underlying t = some .string) (hc : P.cellsOf t = 1) : Opens Kd.string P t (fun s => s.size ≤ maxLen) :=
  ⟨hc, fun h => by obtain ⟨s, rfl, _, hw⟩ := DataW.trod_string ht h; exact ⟨s, rfl, hw⟩⟩
theorem cells_at {w : World} {base : Nat} {a : Addr} {n : Nat} {cs : List Value} (h : w.cells? base a n = some cs) : cs.length = n ∧ ∀ i u, cs[i]? = some u → w.cell? (a.add i) = some u := by
  obtain ⟨_, hl, hc⟩ := World.cells?_some h
  refine ⟨hl, fun i u hu => ?_⟩
  have hi : i < n := by have := (List.getElem?_eq_some_iff.1 hu).1; omega
  rw [hc i hi, hu]
theorem Opens.slice {α : Type} {K : Kd α} {P : Program} {t e : TypeId} {ok : α → Prop} (ht : P.underlying t = some (.slice e)) (hc : P.cellsOf t = 1) (h : Opens K P e ok) :
    Opens (Kd.slice e K) P t (fun xs => xs.length ≤ maxLen ∧ ∀ x ∈ xs, ok x) := by
  refine ⟨hc, fun {H enc w base spare held fuel cs x} hx => ?_⟩
  rcases DataW.trod_slice ht hx with ⟨rfl, _⟩ | ⟨a, len, cap, elems, rest, n, _, rfl, _, _, hl, hm, hlen, hel, _, _⟩
  · exact ⟨[], ⟨none, 0, rfl, Nat.le_refl _, rfl, by simp, fun h0 => absurd h0 (by simp)⟩, by simp, by simp⟩
  · have each : ∀ i, i < len → ∃ a', ok a' ∧ ∃ cs, cs.length = K.sz ∧ K.K w a' cs ∧ ∀ j u, cs[j]? = some u → w.cell? (a.add (i * K.sz + j)) = some u := by
      intro i hi
      have h1 := hel i hi
      rw [List.getElem?_eq_getElem (by omega), Option.bind_eq_some_iff] at h1
      obtain ⟨cs', hcs, hy⟩ := h1
      obtain ⟨a', hk, ho⟩ := h.op hy
      obtain ⟨hlc, hcell⟩ := cells_at hcs
      refine ⟨a', ho, cs', by rw [hlc, h.sz], hk, fun j u hu => ?_⟩
      have := hcell j u hu
      rwa [h.sz, Addr.add_add] at this
    have pick : ∀ m, m ≤ len → ∃ xs : List α, xs.length = m ∧ (∀ x ∈ xs, ok x) ∧ ∀ i p, xs[i]? = some p → ∃ cs, cs.length = K.sz ∧ K.K w p cs ∧ ∀ j u, cs[j]? = some u → w.cell? (a.add (i * K.sz + j)) = some u := by
      intro m
      induction m with
      | zero => intro _; exact ⟨[], rfl, by simp, by simp⟩
      | succ m ih =>
        intro hm'
        obtain ⟨xs, hxl, hxo, hxc⟩ := ih (by omega)
        obtain ⟨a', ho, hcs⟩ := each m (by omega)
        refine ⟨xs ++ [a'], by simp [hxl], fun y hy => ?_, fun i p hp => ?_⟩
        · rcases List.mem_append.1 hy with hy | hy
          · exact hxo y hy
          · rw [List.mem_singleton.1 hy]; exact ho
        · by_cases hi : i < m
          · rw [List.getElem?_append_left (by omega)] at hp
            exact hxc i p hp
          · have : i = m := by
              have := (List.getElem?_eq_some_iff.1 hp).1
              simp [hxl] at this; omega
            subst this
            rw [List.getElem?_append_right (by omega), hxl] at hp
            simp at hp
            subst hp
            exact hcs
    obtain ⟨xs, hxl, hxo, hxc⟩ := pick len (Nat.le_refl _)
    refine ⟨xs, ⟨some a, cap, by rw [hxl], by omega, rfl, by unfold maxLen at hm; omega, fun _ => ⟨a, rfl, hxc⟩⟩, by omega, hxo⟩
end Go.Proofs.YtbcijmpkmmcdeaaDoor.Op
end
section
namespace Go.Proofs.YtbcijmpkmmcdeaaDoor.PAll
open Go.RowKit Go.Proofs.YtbcijmpkmmcdeaaDoorW.PrintWords Go.Proofs.YtbcijmpkmmcdeaaDoorW.PrintLast Go.Proofs.YtbcijmpkmmcdeaaDoorW.PrintMore
open Go.ChangeShapes Go.WideShapes
set_option linter.unusedVariables false
set_option linter.unusedSimpArgs false
set_option maxRecDepth 100000
theorem opens51 : Op.Opens k51 Tryd.prog 51 (fun _ => True) := by
  refine ⟨by kernel_rfl, fun {H enc w base spare held fuel cs x} hx => ?_⟩
  obtain ⟨y0, y1, n, _, hl, h0, h1⟩ := trod_struct2 Tryd.underlying51 hx
  have hc3 : Tryd.prog.cellsOf 3 = 1 := by kernel_rfl
  have hc51 : Tryd.prog.cellsOf 51 = 2 := by kernel_rfl
  rw [hc51] at hl
  match cs, hl with
  | [u, v], _ =>
    simp only [hc3, List.drop_zero, List.take_succ_cons, List.take_zero, List.drop_succ_cons] at h0 h1
    obtain ⟨a, ea, _, _⟩ := DataW.trod_int Tryd.underlying3 h0
    obtain ⟨b, eb, _, _⟩ := DataW.trod_int Tryd.underlying3 h1
    simp only [List.cons.injEq, and_true] at ea eb
    subst ea; subst eb
    exact ⟨⟨a, b⟩, ⟨_, _, rfl, rfl, rfl⟩, trivial⟩
theorem ledger_open {H : Type} {enc : TypeId × Value → H} {w : World} {base : Nat} {spare : Nat → Bool} {held : Bool} {fuel : Nat} {cs : List Value} {x : DataW H × List MemPlace} (h : DataW.trod enc Tryd.prog w base spare held fuel 32 cs = some x) :
    ∃ (b m cr : Int) (A : Option Addr) (c : Nat) (l : List S51), cs = [.int .i64 b, .int .i64 m, .int .i64 cr, .slice A l.length c] ∧ l.length ≤ c ∧ Kd.C k51 w A l.length l := by
  obtain ⟨xs, n, _, _, hl, hlen, hf⟩ := DataW.trod_struct Tryd.underlying32 h
  have hc3 : Tryd.prog.cellsOf 3 = 1 := by kernel_rfl
  have hc30 : Tryd.prog.cellsOf 30 = 1 := by kernel_rfl
  have hc32 : Tryd.prog.cellsOf 32 = 4 := by kernel_rfl
  rw [hc32] at hl
  match cs, hl, xs, hlen with
  | [u, v, y, z], _, [x0, x1, x2, x3], _ =>
    have f0 : DataW.trod enc Tryd.prog w base spare held n 3 (([u, v, y, z].drop 0).take (Tryd.prog.cellsOf 3)) = some x0 := hf 0 _ rfl
    have f1 : DataW.trod enc Tryd.prog w base spare held n 3 (([u, v, y, z].drop 1).take (Tryd.prog.cellsOf 3)) = some x1 := hf 1 _ rfl
    have f2 : DataW.trod enc Tryd.prog w base spare held n 3 (([u, v, y, z].drop 2).take (Tryd.prog.cellsOf 3)) = some x2 := hf 2 _ rfl
    have f3 : DataW.trod enc Tryd.prog w base spare held n 30 (([u, v, y, z].drop 3).take (Tryd.prog.cellsOf 30)) = some x3 := hf 3 _ rfl
    rw [hc3] at f0 f1 f2
    rw [hc30] at f3
    obtain ⟨a, ea, _, _⟩ := DataW.trod_int Tryd.underlying3 (show DataW.trod enc Tryd.prog w base spare held n 3 [u] = some x0 from f0)
    obtain ⟨b, eb, _, _⟩ := DataW.trod_int Tryd.underlying3 (show DataW.trod enc Tryd.prog w base spare held n 3 [v] = some x1 from f1)
    obtain ⟨c, ec, _, _⟩ := DataW.trod_int Tryd.underlying3 (show DataW.trod enc Tryd.prog w base spare held n 3 [y] = some x2 from f2)
    simp only [List.cons.injEq, and_true] at ea eb ec
    subst ea; subst eb; subst ec
    obtain ⟨l, ⟨A, cc, ez, hlc, hC⟩, _⟩ := (Op.Opens.slice (K := k51) Tryd.underlying30 hc30 opens51).op (show DataW.trod enc Tryd.prog w base spare held n 30 [z] = some x3 from f3)
    simp only [List.cons.injEq, and_true] at ez
    subst ez
    exact ⟨a, b, c, A, cc, l, rfl, hlc, hC⟩
end Go.Proofs.YtbcijmpkmmcdeaaDoor.PAll
end
section
namespace Go.Proofs.YtbcijmpkmmcdeaaDoor.SF
open Go.RowKit Go.Sx Go.Proofs.YtbcijmpkmmcdeaaDoor.PAll Go.Proofs.YtbcijmpkmmcdeaaDoorW.PrintWords Go.Proofs.YtbcijmpkmmcdeaaDoorW.PrintLast Go.Proofs.YtbcijmpkmmcdeaaDoorW.PrintMore
set_option linter.unusedVariables false
set_option linter.unusedSimpArgs false
set_option maxRecDepth 100000
structure S32 where
  f0 : Int
  f1 : Int
  f2 : Int
  f3 : List S51
def k32 : Kd S32 := Kd.iso (Kd.pair (Kd.int .i64) (Kd.pair (Kd.int .i64) (Kd.pair (Kd.int .i64) (Kd.slice 51 k51)))) (fun x : S32 => (x.f0, x.f1, x.f2, x.f3))
theorem k32_open {w : World} {x : S32} {cs : List Value} (h : k32.K w x cs) : ∃ g : Gh, cs = [.int .i64 x.f0, .int .i64 x.f1, .int .i64 x.f2, .slice g.1 x.f3.length g.2] ∧ RowP w g x.f3 := by
  obtain ⟨_, _, rfl, rfl, _, _, rfl, rfl, _, _, rfl, rfl, A, c, rfl, h1, h2⟩ := h
  exact ⟨(A, c), rfl, h1, h2⟩
theorem k32_mk {w : World} {g : Gh} (x : S32) (h : RowP w g x.f3) : k32.K w x [.int .i64 x.f0, .int .i64 x.f1, .int .i64 x.f2, .slice g.1 x.f3.length g.2] :=
  ⟨[_], [_, _, _], rfl, rfl, [_], [_, _], rfl, rfl, [_], [_], rfl, rfl, _, _, rfl, h.1, h.2⟩
def RowL (w : World) (q : Gh) (l : List S32) : Prop := l.length ≤ q.2 ∧ Kd.C k32 w q.1 l.length l
theorem RowL.below {w w' : World} {q : Gh} {l : List S32} (h : RowL w q l) (hb : Below w.heap.size w w') : RowL w' q l := ⟨h.1, Kd.C_below h.2 hb⟩
theorem RowL.at {w : World} {q : Gh} {l : List S32} {j : Nat} {p : S32} (h : RowL w q l) (hp : l[j]? = some p) : ∃ ad g, q.1 = some ad ∧ CellsAt w (ad.add (j * 4)) [.int .i64 p.f0, .int .i64 p.f1, .int .i64 p.f2, .slice g.1 p.f3.length g.2] ∧ RowP w g p.f3 := by
  obtain ⟨h1, h2, h3⟩ := h.2
  have hj : j < l.length := (List.getElem?_eq_some_iff.1 hp).1
  obtain ⟨ad, e, hc⟩ := h3 (by omega)
  obtain ⟨c, hs, hr, hcell⟩ := hc j p hp
  obtain ⟨g, rfl, hg⟩ := k32_open hr
  exact ⟨ad, g, e, fun i u hu => by rw [Sx.add_add]; exact hcell i u hu, hg⟩
theorem opens32 : Op.Opens k32 Tryd.prog 32 (fun _ => True) := by
  refine ⟨by kernel_rfl, fun {H enc w base spare held fuel cs x} hx => ?_⟩
  obtain ⟨b, m, cr, A, c, l, rfl, hlc, hC⟩ := ledger_open hx
  exact ⟨⟨b, m, cr, l⟩, k32_mk (g := (A, c)) ⟨b, m, cr, l⟩ ⟨hlc, hC⟩, trivial⟩
theorem RowC.upd {b : Nat} {T : TypeId} {cs cs' : List Value} {w w' : World} {p : Gh} {l : List Int} (h : RowC w p l) (hu : Upd b T cs cs' w w') (hn : ∀ (k : Nat) (x : Int), cs[k]? ≠ some (.int .u8 x)) : RowC w' p l := by
  obtain ⟨h0, h1, h2, h3⟩ := h
  refine ⟨h0, h1, h2, fun hl => ?_⟩
  obtain ⟨ad, e, hc⟩ := h3 hl
  refine ⟨ad, e, fun j q hq => ?_⟩
  obtain ⟨c, hs, hr, hcell⟩ := hc j q hq
  refine ⟨c, hs, hr, fun i u hiu => ?_⟩
  have hx := hcell i u hiu
  refine hu.cell hx ?_
  have hr' : c = [.int .u8 q] := hr
  subst hr'
  match i, hiu with
  | 0, hiu =>
    cases hiu
    exact hu.ne hx (fun k => hn k q)
  | i + 1, hiu => simp at hiu
theorem Jn.ok.upd {b : Nat} {T : TypeId} {cs cs' : List Value} {w w' : World} {J : Jn} {p0 p1 p2 : Gh} (h : Jn.ok w J p0 p1 p2) (hu : Upd b T cs cs' w w') (hn : ∀ (k : Nat) (x : Int), cs[k]? ≠ some (.int .u8 x)) : Jn.ok w' J p0 p1 p2 := ⟨h.1.upd hu hn, h.2.1.upd hu hn, h.2.2.upd hu hn⟩
theorem cells_u8 (J : Jn) (p0 p1 p2 : Gh) : ∀ (k : Nat) (x : Int), (Jn.cells J p0 p1 p2)[k]? ≠ some (.int .u8 x) := by
  intro k x
  match k with
  | 0 => simp [Jn.cells]
  | 1 => simp [Jn.cells]
  | 2 => simp [Jn.cells]
  | 3 => simp [Jn.cells]
  | 4 => simp [Jn.cells]
  | k + 5 => simp [Jn.cells]
def JJ (L : List S32) : Nat → Jn
  | 0 => ⟨[], [], 0, [], false⟩
  | i + 1 => match L[i]? with
    | some p => (JJ L i).write p.f0 p.f1 p.f3
    | none => JJ L i
theorem JJ_succ {L : List S32} {i : Nat} {p : S32} (h : L[i]? = some p) : (JJ L i).write p.f0 p.f1 p.f3 = JJ L (i + 1) := by
  show _ = (match L[i]? with
    | some p => (JJ L i).write p.f0 p.f1 p.f3
    | none => JJ L i)
  rw [h]
structure JInv (J : Jn) (i : Nat) : Prop where
  b0 : Bytes J.s0
  b1 : Bytes J.s1
  sq : (jload J.s0 J.s1).seq = i
theorem JInv.zero (L : List S32) : JInv (JJ L 0) 0 := ⟨Bytes_nil, Bytes_nil, by
  show (jload [] []).seq = 0
  rw [show jload [] [] = ⟨0, 0, [], 0⟩ from jload_short (by decide) (by decide) (fun x hx => by cases hx) (fun x hx => by cases hx)]⟩
theorem jone_le (i : Int) (l : List Int) (o : JL) : o.seq ≤ (jone i l o).seq := by
  unfold jone
  split
  · rename_i h
    exact Int.le_of_lt h.2.2
  · exact Int.le_refl _
theorem jone_keep {i : Int} {l : List Int} {o o2 : JL} (h : (jone i l o).seq ≤ o2.seq) : jone i l o2 = o2 := by
  unfold jone at h ⊢
  refine if_neg (fun hc => ?_)
  split at h
  · exact absurd hc.2.2 (by show ¬ o2.seq < _; simp only at h; omega)
  · rename_i hn
    exact hn ⟨hc.1, hc.2.1, by have := hc.2.2; omega⟩
theorem tm2 (n : Nat) : Int.tmod ((n : Nat) : Int) 2 = ((n % 2 : Nat) : Int) := rfl
theorem turn_step {J : Jn} {i : Nat} {p : S32} (h : JInv J i) (hm : MayBe p.f0 p.f1 p.f3) (hl : p.f3.length ≤ 80) (hi : i < 30) :
    JInv (J.write p.f0 p.f1 p.f3) (i + 1) ∧ jload (J.write p.f0 p.f1 p.f3).s0 (J.write p.f0 p.f1 p.f3).s1 = ⟨p.f0, p.f1, p.f3, ((i + 1 : Nat) : Int)⟩ ∧
    (∀ k : Nat, i = 2 * k → J.write p.f0 p.f1 p.f3 = ⟨J.s0, jput p.f0 p.f1 p.f3 ((i + 1 : Nat) : Int), 1, J.s1, true⟩) ∧ (∀ k : Nat, i = 2 * k + 1 → J.write p.f0 p.f1 p.f3 = ⟨jput p.f0 p.f1 p.f3 ((i + 1 : Nat) : Int), J.s1, 0, J.s0, true⟩) := by
  have hw : IntKind.u64.wrap ((jload J.s0 J.s1).seq + 1) = ((i + 1 : Nat) : Int) := by
    rw [h.sq]
    simp only [IntKind.wrap, IntKind.signed, IntKind.bits]
    simp
    omega
  have hb : Bytes (jput p.f0 p.f1 p.f3 ((i + 1 : Nat) : Int)) := jput_bytes (by omega)
  have hs := h.sq
  obtain ⟨k, hk | hk⟩ : ∃ k : Nat, i = 2 * k ∨ i = 2 * k + 1 := ⟨i / 2, by omega⟩
  · have e : J.write p.f0 p.f1 p.f3 = ⟨J.s0, jput p.f0 p.f1 p.f3 ((i + 1 : Nat) : Int), 1, J.s1, true⟩ := by
      unfold Jn.write
      rw [hw, if_neg (by rw [tm2]; omega)]
    have hj : jload J.s0 (jput p.f0 p.f1 p.f3 ((i + 1 : Nat) : Int)) = ⟨p.f0, p.f1, p.f3, ((i + 1 : Nat) : Int)⟩ := by
      unfold jload at hs ⊢
      have := jone_le 1 J.s1 (jone 0 J.s0 ⟨0, 0, [], 0⟩)
      exact jone_put hm (by omega) (by omega) (by rw [tm2]; omega) (by omega)
    rw [e]
    exact ⟨⟨h.b0, hb, by show (jload J.s0 (jput _ _ _ _)).seq = _; rw [hj]⟩, hj, fun _ _ => rfl, fun k' hk' => by omega⟩
  · have e : J.write p.f0 p.f1 p.f3 = ⟨jput p.f0 p.f1 p.f3 ((i + 1 : Nat) : Int), J.s1, 0, J.s0, true⟩ := by
      unfold Jn.write
      rw [hw, if_pos (by rw [tm2]; omega)]
    have hj : jload (jput p.f0 p.f1 p.f3 ((i + 1 : Nat) : Int)) J.s1 = ⟨p.f0, p.f1, p.f3, ((i + 1 : Nat) : Int)⟩ := by
      unfold jload at hs ⊢
      rw [jone_put (o := ⟨0, 0, [], 0⟩) hm (by omega) (by omega) (by rw [tm2]; omega) (by show (0 : Int) < _; omega)]
      exact jone_keep (o := jone 0 J.s0 ⟨0, 0, [], 0⟩) (by show _ ≤ ((i + 1 : Nat) : Int); omega)
    rw [e]
    exact ⟨⟨hb, h.b1, by show (jload (jput _ _ _ _) J.s1).seq = _; rw [hj]⟩, hj, fun k' hk' => by omega, fun _ _ => rfl⟩
end Go.Proofs.YtbcijmpkmmcdeaaDoor.SF
end
