/-
  No cell of these rows narrows 'for every input' (looked for: loops, veiled, ifaces, maps, wideKeys, modest, calm, conditions, laid).
  DERIVED. THE GIVEN ROWS OF THIS SEAT. 4 by the template 'for every input the law returns true; each argument reads behind the call as it read before'; 0 by the template 'total and deterministic' (their statements: YtjabjihbefikkaaTotals.lean).
  GIVEN WITH THE SEED: the statements are not yours to turn. If you find one false, say at which input.
  Laid BY PROGRAM, IN A SANDBOX (cutbox-rows.mjs): the forced cells as the released guide's own fill.sh prints them over the translation cb1aa5ea050b122f… (all of the seat's roots in one cut). By AI agents, Wed Nov 11 2026. No macro, syntax, notation, axiom, sorry.
-/
import Derived.Test.YtjabjihbefikkaaChecked
import GoSem.Claim
import GoSem.ClaimJoined
import GoSem.ClaimMapViews
import Derived.JoinedTies
import Derived.KernelRfl
namespace Go.Proofs.Ytjabjihbefikkaa
/- THE CELL 'sum', in the pinned program and in every row, IS THE sha256 OF THE DUMP (.gsa) THAT YtjabjihbefikkaaProg.lean LOADS. Nothing in Lean hashes anything: it is a label: what it is worth is what the hold of that sum in a sandbox is worth. -/
noncomputable def Try.pinned : Pinned := { name := "ytjabjihbefikkaa", sum := "cb1aa5ea050b122f64652f7bf54572f7b49735b72f8887714521c2290b8c4892", checked := Try.checked }
namespace Rows
def none {H : Type} : Left H := { results := [], args := [] }

/-- 'paternosterlaw18.SenseTells': WHATEVER THE INPUT: true; the input reads as it did. -/
def senseTellsSpec : ChangeSpec := { name := "senseTells", fn := fun _ => fun
  | [d1, d2, d3] => { results := [.lit (.bool true)], args := [d1, d2, d3] }
  | _ => none }
def senseTellsRow : OpenClaim := { program := "ytjabjihbefikkaa", sum := "cb1aa5ea050b122f64652f7bf54572f7b49735b72f8887714521c2290b8c4892", func := "paternoster/paternosterlaw18.SenseTells", spec := "senseTells", apart := false }
def SenseTellsSaid : Prop := senseTellsRow.holds Try.pinned (OpenSpec.ofChange senseTellsSpec)

/-- ITS FALSE NEIGHBOUR: 'it returns false'. Refute it at one input. -/
def senseTellsWrong : ChangeSpec := { name := "senseTells", fn := fun _ => fun
  | [d1, d2, d3] => { results := [.lit (.bool false)], args := [d1, d2, d3] }
  | _ => none }
def SenseTellsWrongFalsely : Prop := senseTellsRow.holds Try.pinned (OpenSpec.ofChange senseTellsWrong)

/-- 'paternosterlaw18.SenseFlickers': WHATEVER THE INPUT: true; the input reads as it did. -/
def senseFlickersSpec : ChangeSpec := { name := "senseFlickers", fn := fun _ => fun
  | [d1, d2, d3] => { results := [.lit (.bool true)], args := [d1, d2, d3] }
  | _ => none }
def senseFlickersRow : OpenClaim := { program := "ytjabjihbefikkaa", sum := "cb1aa5ea050b122f64652f7bf54572f7b49735b72f8887714521c2290b8c4892", func := "paternoster/paternosterlaw18.SenseFlickers", spec := "senseFlickers", apart := false }
def SenseFlickersSaid : Prop := senseFlickersRow.holds Try.pinned (OpenSpec.ofChange senseFlickersSpec)

/-- ITS FALSE NEIGHBOUR: 'it returns false'. Refute it at one input. -/
def senseFlickersWrong : ChangeSpec := { name := "senseFlickers", fn := fun _ => fun
  | [d1, d2, d3] => { results := [.lit (.bool false)], args := [d1, d2, d3] }
  | _ => none }
def SenseFlickersWrongFalsely : Prop := senseFlickersRow.holds Try.pinned (OpenSpec.ofChange senseFlickersWrong)

/-- 'paternosterlaw18.SenseOther': WHATEVER THE INPUT: true; the input reads as it did. -/
def senseOtherSpec : ChangeSpec := { name := "senseOther", fn := fun _ => fun
  | [d1, d2, d3] => { results := [.lit (.bool true)], args := [d1, d2, d3] }
  | _ => none }
def senseOtherRow : OpenClaim := { program := "ytjabjihbefikkaa", sum := "cb1aa5ea050b122f64652f7bf54572f7b49735b72f8887714521c2290b8c4892", func := "paternoster/paternosterlaw18.SenseOther", spec := "senseOther", apart := false }
def SenseOtherSaid : Prop := senseOtherRow.holds Try.pinned (OpenSpec.ofChange senseOtherSpec)

/-- ITS FALSE NEIGHBOUR: 'it returns false'. Refute it at one input. -/
def senseOtherWrong : ChangeSpec := { name := "senseOther", fn := fun _ => fun
  | [d1, d2, d3] => { results := [.lit (.bool false)], args := [d1, d2, d3] }
  | _ => none }
def SenseOtherWrongFalsely : Prop := senseOtherRow.holds Try.pinned (OpenSpec.ofChange senseOtherWrong)

/-- 'paternosterlaw18.SenseCalm': WHATEVER THE INPUT: true; the input reads as it did. -/
def senseCalmSpec : ChangeSpec := { name := "senseCalm", fn := fun _ => fun
  | [d1, d2, d3] => { results := [.lit (.bool true)], args := [d1, d2, d3] }
  | _ => none }
def senseCalmRow : OpenClaim := { program := "ytjabjihbefikkaa", sum := "cb1aa5ea050b122f64652f7bf54572f7b49735b72f8887714521c2290b8c4892", func := "paternoster/paternosterlaw18.SenseCalm", spec := "senseCalm", apart := false }
def SenseCalmSaid : Prop := senseCalmRow.holds Try.pinned (OpenSpec.ofChange senseCalmSpec)

/-- ITS FALSE NEIGHBOUR: 'it returns false'. Refute it at one input. -/
def senseCalmWrong : ChangeSpec := { name := "senseCalm", fn := fun _ => fun
  | [d1, d2, d3] => { results := [.lit (.bool false)], args := [d1, d2, d3] }
  | _ => none }
def SenseCalmWrongFalsely : Prop := senseCalmRow.holds Try.pinned (OpenSpec.ofChange senseCalmWrong)

/- THE SECOND FORM. 'bulk': how many values and letters a reading holds, each counted each time it is reached (what is shared counts as often as it is met; a slice's spare places count too). A statement '..UptoSaid' is the law's where the arguments, and the package variables that the reading takes, are together of bulk at most 1048576: NARROWER than '..Said'. Prove '..Said' where nothing that the law and all that it calls make is longer than what came in: it says more and counts as full. Else prove '..UptoSaid'. A law counts once. -/
mutual
def uptoBulk {H : Type} : DataW H → Nat
  | .lit (.string bytes) => bytes.length + 1
  | .lit _ => 1
  | .nil => 1
  | .ptr d => uptoBulk d + 1
  | .slice elems spare => uptoBulkAll elems + uptoBulkAll spare + 1
  | .agg parts => uptoBulkAll parts + 1
  | .iface _ d => uptoBulk d + 1
  | .map entries => uptoBulkEntries entries + 1
  | .held _ => 1
def uptoBulkAll {H : Type} : List (DataW H) → Nat
  | [] => 0
  | d :: r => uptoBulk d + uptoBulkAll r
def uptoBulkEntries {H : Type} : List (Lit × DataW H) → Nat
  | [] => 0
  | x :: r => uptoBulkEntry x + uptoBulkEntries r
def uptoBulkEntry {H : Type} : Lit × DataW H → Nat
  | (.string bytes, d) => bytes.length + uptoBulk d + 1
  | (_, d) => uptoBulk d + 1
 end
def uptoSmall : (H : Type) → List (DataW H) → Bool := fun _ ds => decide (uptoBulkAll ds ≤ 1048576)
def OpenSpec.upto (s : _root_.Go.ChangeSpec) : _root_.Go.OpenSpec := { _root_.Go.OpenSpec.ofChange s with cond := some uptoSmall }

/-- 'paternosterlaw18.SenseTells', WHERE WHAT IT READS IS OF BULK AT MOST 1048576: true; the input reads as it did. -/
def senseTellsUptoRow : OpenClaim := { program := "ytjabjihbefikkaa", sum := "cb1aa5ea050b122f64652f7bf54572f7b49735b72f8887714521c2290b8c4892", func := "paternoster/paternosterlaw18.SenseTells", spec := "senseTells", apart := false, narrowed := true }
def SenseTellsUptoSaid : Prop := senseTellsUptoRow.holds Try.pinned (OpenSpec.upto senseTellsSpec)

/-- 'paternosterlaw18.SenseFlickers', WHERE WHAT IT READS IS OF BULK AT MOST 1048576: true; the input reads as it did. -/
def senseFlickersUptoRow : OpenClaim := { program := "ytjabjihbefikkaa", sum := "cb1aa5ea050b122f64652f7bf54572f7b49735b72f8887714521c2290b8c4892", func := "paternoster/paternosterlaw18.SenseFlickers", spec := "senseFlickers", apart := false, narrowed := true }
def SenseFlickersUptoSaid : Prop := senseFlickersUptoRow.holds Try.pinned (OpenSpec.upto senseFlickersSpec)

/-- 'paternosterlaw18.SenseOther', WHERE WHAT IT READS IS OF BULK AT MOST 1048576: true; the input reads as it did. -/
def senseOtherUptoRow : OpenClaim := { program := "ytjabjihbefikkaa", sum := "cb1aa5ea050b122f64652f7bf54572f7b49735b72f8887714521c2290b8c4892", func := "paternoster/paternosterlaw18.SenseOther", spec := "senseOther", apart := false, narrowed := true }
def SenseOtherUptoSaid : Prop := senseOtherUptoRow.holds Try.pinned (OpenSpec.upto senseOtherSpec)

/-- 'paternosterlaw18.SenseCalm', WHERE WHAT IT READS IS OF BULK AT MOST 1048576: true; the input reads as it did. -/
def senseCalmUptoRow : OpenClaim := { program := "ytjabjihbefikkaa", sum := "cb1aa5ea050b122f64652f7bf54572f7b49735b72f8887714521c2290b8c4892", func := "paternoster/paternosterlaw18.SenseCalm", spec := "senseCalm", apart := false, narrowed := true }
def SenseCalmUptoSaid : Prop := senseCalmUptoRow.holds Try.pinned (OpenSpec.upto senseCalmSpec)

end Rows
end Go.Proofs.Ytjabjihbefikkaa
