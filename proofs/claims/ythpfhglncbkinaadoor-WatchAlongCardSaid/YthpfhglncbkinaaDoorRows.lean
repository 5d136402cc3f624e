/-
  NARROWER THAN 'FOR EVERY INPUT', by the rows' own cells (each row's printed sentence says how): WatchTells: laid · WatchAlong: laid · WatchLater: laid.
  DERIVED. THE GIVEN ROWS OF THIS SEAT. 3 by the template 'for every input the law returns true; each argument reads behind the call as it read before'; 0 by the template 'total and deterministic' (their statements: YthpfhglncbkinaaDoorTotals.lean).
  GIVEN WITH THE SEED: the statements are not yours to turn. If you find one false, say at which input.
  Laid BY PROGRAM, IN A SANDBOX (cutbox-rows.mjs): the forced cells as the released guide's own fill.sh prints them over the translation 3e8c85a0f4367ab1… (all of the seat's roots in one cut). By AI agents, Wed Nov 11 2026. No macro, syntax, notation, axiom, sorry.
-/
import Derived.Test.YthpfhglncbkinaaDoorChecked
import GoSem.Claim
import GoSem.ClaimJoined
import GoSem.ClaimMapViews
import Derived.JoinedTies
import Derived.KernelRfl
namespace Go.Proofs.YthpfhglncbkinaaDoor
/- THE CELL 'sum', in the pinned program and in every row, IS THE sha256 OF THE DUMP (.gsa) THAT YthpfhglncbkinaaDoorProg.lean LOADS. Nothing in Lean hashes anything: it is a label: what it is worth is what the hold of that sum in a sandbox is worth. -/
noncomputable def Tryd.pinned : Pinned := { name := "ythpfhglncbkinaadoor", sum := "3e8c85a0f4367ab18e28ad147fd195b40da2921d644153653bbd1a53640d021f", checked := Tryd.checked }
namespace Rows
def none {H : Type} : Left H := { results := [], args := [] }

/- WHAT THE LISTED PACKAGE-LEVEL VARIABLES READ AS WHEN THE CALL BEGINS. Each datum BY PROGRAM (the guide's laid-datum.mjs) off the statement by which the dump's own 'gosem.cut.vars' lays the variable. In a bare row this is a premise. The card (YthpfhglncbkinaaDoorCards.lean) ties it to the program's text. -/
def laid_paternoster_phase_next {H : Type} : DataW H := .agg [.lit (.int .i64 35), .lit (.int .i64 39), .lit (.int .i64 46), .lit (.int .i64 59), .lit (.int .i64 59), .lit (.int .i64 35)]

/-- 'paternosterlaw25.WatchTells': WHATEVER THE INPUT: true; the input reads as it did. -/
def watchTellsSpec : ChangeSpec := { name := "watchTells", fn := fun _ => fun
  | [d1, d2, d3, d4] => { results := [.lit (.bool true)], args := [d1, d2, d3, d4] }
  | _ => none }
def watchTellsRow : OpenClaim := { program := "ythpfhglncbkinaadoor", sum := "3e8c85a0f4367ab18e28ad147fd195b40da2921d644153653bbd1a53640d021f", func := "paternoster/paternosterlaw25.WatchTells", spec := "watchTells", inPlace := ["sync/atomic.AddInt64", "sync/atomic.LoadInt64"], unfollowed := true, recurses := true, named := ["paternoster/phase.next"], apart := false, laid := [("paternoster/phase.next", laid_paternoster_phase_next)] }
def WatchTellsSaid : Prop := watchTellsRow.holds Tryd.pinned (OpenSpec.ofChange watchTellsSpec)

/-- ITS FALSE NEIGHBOUR: 'it returns false'. Refute it at one input. -/
def watchTellsWrong : ChangeSpec := { name := "watchTells", fn := fun _ => fun
  | [d1, d2, d3, d4] => { results := [.lit (.bool false)], args := [d1, d2, d3, d4] }
  | _ => none }
def WatchTellsWrongFalsely : Prop := watchTellsRow.holds Tryd.pinned (OpenSpec.ofChange watchTellsWrong)

/-- 'paternosterlaw25.WatchAlong': WHATEVER THE INPUT: true; the input reads as it did. -/
def watchAlongSpec : ChangeSpec := { name := "watchAlong", fn := fun _ => fun
  | [d1, d2] => { results := [.lit (.bool true)], args := [d1, d2] }
  | _ => none }
def watchAlongRow : OpenClaim := { program := "ythpfhglncbkinaadoor", sum := "3e8c85a0f4367ab18e28ad147fd195b40da2921d644153653bbd1a53640d021f", func := "paternoster/paternosterlaw25.WatchAlong", spec := "watchAlong", inPlace := ["sync/atomic.AddInt64", "sync/atomic.LoadInt64"], unfollowed := true, recurses := true, named := ["paternoster/phase.next"], apart := false, laid := [("paternoster/phase.next", laid_paternoster_phase_next)] }
def WatchAlongSaid : Prop := watchAlongRow.holds Tryd.pinned (OpenSpec.ofChange watchAlongSpec)

/-- ITS FALSE NEIGHBOUR: 'it returns false'. Refute it at one input. -/
def watchAlongWrong : ChangeSpec := { name := "watchAlong", fn := fun _ => fun
  | [d1, d2] => { results := [.lit (.bool false)], args := [d1, d2] }
  | _ => none }
def WatchAlongWrongFalsely : Prop := watchAlongRow.holds Tryd.pinned (OpenSpec.ofChange watchAlongWrong)

/-- 'paternosterlaw25.WatchLater': WHATEVER THE INPUT: true; the input reads as it did. -/
def watchLaterSpec : ChangeSpec := { name := "watchLater", fn := fun _ => fun
  | [d1, d2, d3] => { results := [.lit (.bool true)], args := [d1, d2, d3] }
  | _ => none }
def watchLaterRow : OpenClaim := { program := "ythpfhglncbkinaadoor", sum := "3e8c85a0f4367ab18e28ad147fd195b40da2921d644153653bbd1a53640d021f", func := "paternoster/paternosterlaw25.WatchLater", spec := "watchLater", inPlace := ["sync/atomic.AddInt64", "sync/atomic.LoadInt64"], unfollowed := true, recurses := true, named := ["paternoster/phase.next"], apart := false, laid := [("paternoster/phase.next", laid_paternoster_phase_next)] }
def WatchLaterSaid : Prop := watchLaterRow.holds Tryd.pinned (OpenSpec.ofChange watchLaterSpec)

/-- ITS FALSE NEIGHBOUR: 'it returns false'. Refute it at one input. -/
def watchLaterWrong : ChangeSpec := { name := "watchLater", fn := fun _ => fun
  | [d1, d2, d3] => { results := [.lit (.bool false)], args := [d1, d2, d3] }
  | _ => none }
def WatchLaterWrongFalsely : Prop := watchLaterRow.holds Tryd.pinned (OpenSpec.ofChange watchLaterWrong)

/- THE SECOND FORM. 'bulk': how many values and letters a reading holds, each counted each time it is reached (what is shared counts as often as it is met; a slice's spare places count too). A statement '..UptoSaid' is the law's where the arguments, and the package variables that the reading takes, are together of bulk at most 1048576: NARROWER than '..Said'. Prove '..Said' where nothing that the law and all that it calls make is longer than what came in: it says more and counts as full. Else prove '..UptoSaid'. A law counts once. -/
mutual
def uptoBulk {H : Type} : DataW H → Nat
  | .lit (.string bytes) => bytes.length + 1
  | .lit _ => 1
  | .nil => 1
  | .ptr d => uptoBulk d + 1
  | .slice elems spare => uptoBulkAll elems + uptoBulkAll spare + 1
  | .agg parts => uptoBulkAll parts + 1
  | .iface _ d => uptoBulk d + 1
  | .map entries => uptoBulkEntries entries + 1
  | .held _ => 1
def uptoBulkAll {H : Type} : List (DataW H) → Nat
  | [] => 0
  | d :: r => uptoBulk d + uptoBulkAll r
def uptoBulkEntries {H : Type} : List (Lit × DataW H) → Nat
  | [] => 0
  | x :: r => uptoBulkEntry x + uptoBulkEntries r
def uptoBulkEntry {H : Type} : Lit × DataW H → Nat
  | (.string bytes, d) => bytes.length + uptoBulk d + 1
  | (_, d) => uptoBulk d + 1
 end
def uptoSmall : (H : Type) → List (DataW H) → Bool := fun _ ds => decide (uptoBulkAll ds ≤ 1048576)
def OpenSpec.upto (s : _root_.Go.ChangeSpec) : _root_.Go.OpenSpec := { _root_.Go.OpenSpec.ofChange s with cond := some uptoSmall }

/-- 'paternosterlaw25.WatchTells', WHERE WHAT IT READS IS OF BULK AT MOST 1048576: true; the input reads as it did. -/
def watchTellsUptoRow : OpenClaim := { program := "ythpfhglncbkinaadoor", sum := "3e8c85a0f4367ab18e28ad147fd195b40da2921d644153653bbd1a53640d021f", func := "paternoster/paternosterlaw25.WatchTells", spec := "watchTells", inPlace := ["sync/atomic.AddInt64", "sync/atomic.LoadInt64"], unfollowed := true, recurses := true, named := ["paternoster/phase.next"], apart := false, laid := [("paternoster/phase.next", laid_paternoster_phase_next)], narrowed := true }
def WatchTellsUptoSaid : Prop := watchTellsUptoRow.holds Tryd.pinned (OpenSpec.upto watchTellsSpec)

/-- 'paternosterlaw25.WatchAlong', WHERE WHAT IT READS IS OF BULK AT MOST 1048576: true; the input reads as it did. -/
def watchAlongUptoRow : OpenClaim := { program := "ythpfhglncbkinaadoor", sum := "3e8c85a0f4367ab18e28ad147fd195b40da2921d644153653bbd1a53640d021f", func := "paternoster/paternosterlaw25.WatchAlong", spec := "watchAlong", inPlace := ["sync/atomic.AddInt64", "sync/atomic.LoadInt64"], unfollowed := true, recurses := true, named := ["paternoster/phase.next"], apart := false, laid := [("paternoster/phase.next", laid_paternoster_phase_next)], narrowed := true }
def WatchAlongUptoSaid : Prop := watchAlongUptoRow.holds Tryd.pinned (OpenSpec.upto watchAlongSpec)

/-- 'paternosterlaw25.WatchLater', WHERE WHAT IT READS IS OF BULK AT MOST 1048576: true; the input reads as it did. -/
def watchLaterUptoRow : OpenClaim := { program := "ythpfhglncbkinaadoor", sum := "3e8c85a0f4367ab18e28ad147fd195b40da2921d644153653bbd1a53640d021f", func := "paternoster/paternosterlaw25.WatchLater", spec := "watchLater", inPlace := ["sync/atomic.AddInt64", "sync/atomic.LoadInt64"], unfollowed := true, recurses := true, named := ["paternoster/phase.next"], apart := false, laid := [("paternoster/phase.next", laid_paternoster_phase_next)], narrowed := true }
def WatchLaterUptoSaid : Prop := watchLaterUptoRow.holds Tryd.pinned (OpenSpec.upto watchLaterSpec)

end Rows
end Go.Proofs.YthpfhglncbkinaaDoor
