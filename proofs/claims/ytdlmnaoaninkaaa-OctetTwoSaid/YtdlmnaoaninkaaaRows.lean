/-
  No cell of these rows narrows 'for every input' (looked for: loops, veiled, ifaces, maps, wideKeys, modest, calm, conditions, laid).
  DERIVED. THE GIVEN ROWS OF THIS SEAT. 9 by the template 'for every input the law returns true; each argument reads behind the call as it read before'; 0 by the template 'total and deterministic' (their statements: YtdlmnaoaninkaaaTotals.lean).
  GIVEN WITH THE SEED: the statements are not yours to turn. If you find one false, say at which input.
  Laid BY PROGRAM, IN A SANDBOX (cutbox-rows.mjs): the forced cells as the released guide's own fill.sh prints them over the translation 5c4c981e688e30d5… (all of the seat's roots in one cut). By AI agents, Wed Nov 11 2026. No macro, syntax, notation, axiom, sorry.
-/
import Derived.Test.YtdlmnaoaninkaaaChecked
import GoSem.Claim
import GoSem.ClaimJoined
import GoSem.ClaimMapViews
import Derived.JoinedTies
import Derived.KernelRfl
namespace Go.Proofs.Ytdlmnaoaninkaaa
/- THE CELL 'sum', in the pinned program and in every row, IS THE sha256 OF THE DUMP (.gsa) THAT YtdlmnaoaninkaaaProg.lean LOADS. Nothing in Lean hashes anything: it is a label: what it is worth is what the hold of that sum in a sandbox is worth. -/
noncomputable def Try.pinned : Pinned := { name := "ytdlmnaoaninkaaa", sum := "5c4c981e688e30d5166d0a62deb54199dddd96d78ba7583b4a2d21a750e02e87", checked := Try.checked }
namespace Rows
def none {H : Type} : Left H := { results := [], args := [] }

/-- 'paternosterlaw01.OctetPuts': WHATEVER THE INPUT: true; the input reads as it did. -/
def octetPutsSpec : ChangeSpec := { name := "octetPuts", fn := fun _ => fun
  | [d1, d2] => { results := [.lit (.bool true)], args := [d1, d2] }
  | _ => none }
def octetPutsRow : OpenClaim := { program := "ytdlmnaoaninkaaa", sum := "5c4c981e688e30d5166d0a62deb54199dddd96d78ba7583b4a2d21a750e02e87", func := "paternoster/paternosterlaw01.OctetPuts", spec := "octetPuts", unfollowed := true, recurses := true, apart := false }
def OctetPutsSaid : Prop := octetPutsRow.holds Try.pinned (OpenSpec.ofChange octetPutsSpec)

/-- ITS FALSE NEIGHBOUR: 'it returns false'. Refute it at one input. -/
def octetPutsWrong : ChangeSpec := { name := "octetPuts", fn := fun _ => fun
  | [d1, d2] => { results := [.lit (.bool false)], args := [d1, d2] }
  | _ => none }
def OctetPutsWrongFalsely : Prop := octetPutsRow.holds Try.pinned (OpenSpec.ofChange octetPutsWrong)

/-- 'paternosterlaw01.OctetGets': WHATEVER THE INPUT: true; the input reads as it did. -/
def octetGetsSpec : ChangeSpec := { name := "octetGets", fn := fun _ => fun
  | [d1, d2] => { results := [.lit (.bool true)], args := [d1, d2] }
  | _ => none }
def octetGetsRow : OpenClaim := { program := "ytdlmnaoaninkaaa", sum := "5c4c981e688e30d5166d0a62deb54199dddd96d78ba7583b4a2d21a750e02e87", func := "paternoster/paternosterlaw01.OctetGets", spec := "octetGets", unfollowed := true, recurses := true, apart := false }
def OctetGetsSaid : Prop := octetGetsRow.holds Try.pinned (OpenSpec.ofChange octetGetsSpec)

/-- ITS FALSE NEIGHBOUR: 'it returns false'. Refute it at one input. -/
def octetGetsWrong : ChangeSpec := { name := "octetGets", fn := fun _ => fun
  | [d1, d2] => { results := [.lit (.bool false)], args := [d1, d2] }
  | _ => none }
def OctetGetsWrongFalsely : Prop := octetGetsRow.holds Try.pinned (OpenSpec.ofChange octetGetsWrong)

/-- 'paternosterlaw01.OctetJoins': WHATEVER THE INPUT: true; the input reads as it did. -/
def octetJoinsSpec : ChangeSpec := { name := "octetJoins", fn := fun _ => fun
  | [d1, d2] => { results := [.lit (.bool true)], args := [d1, d2] }
  | _ => none }
def octetJoinsRow : OpenClaim := { program := "ytdlmnaoaninkaaa", sum := "5c4c981e688e30d5166d0a62deb54199dddd96d78ba7583b4a2d21a750e02e87", func := "paternoster/paternosterlaw01.OctetJoins", spec := "octetJoins", unfollowed := true, recurses := true, apart := false }
def OctetJoinsSaid : Prop := octetJoinsRow.holds Try.pinned (OpenSpec.ofChange octetJoinsSpec)

/-- ITS FALSE NEIGHBOUR: 'it returns false'. Refute it at one input. -/
def octetJoinsWrong : ChangeSpec := { name := "octetJoins", fn := fun _ => fun
  | [d1, d2] => { results := [.lit (.bool false)], args := [d1, d2] }
  | _ => none }
def OctetJoinsWrongFalsely : Prop := octetJoinsRow.holds Try.pinned (OpenSpec.ofChange octetJoinsWrong)

/-- 'paternosterlaw01.OctetBack': WHATEVER THE INPUT: true; the input reads as it did. -/
def octetBackSpec : ChangeSpec := { name := "octetBack", fn := fun _ => fun
  | [d1, d2, d3, d4] => { results := [.lit (.bool true)], args := [d1, d2, d3, d4] }
  | _ => none }
def octetBackRow : OpenClaim := { program := "ytdlmnaoaninkaaa", sum := "5c4c981e688e30d5166d0a62deb54199dddd96d78ba7583b4a2d21a750e02e87", func := "paternoster/paternosterlaw01.OctetBack", spec := "octetBack", unfollowed := true, recurses := true, apart := false }
def OctetBackSaid : Prop := octetBackRow.holds Try.pinned (OpenSpec.ofChange octetBackSpec)

/-- ITS FALSE NEIGHBOUR: 'it returns false'. Refute it at one input. -/
def octetBackWrong : ChangeSpec := { name := "octetBack", fn := fun _ => fun
  | [d1, d2, d3, d4] => { results := [.lit (.bool false)], args := [d1, d2, d3, d4] }
  | _ => none }
def OctetBackWrongFalsely : Prop := octetBackRow.holds Try.pinned (OpenSpec.ofChange octetBackWrong)

/-- 'paternosterlaw01.OctetOwn': WHATEVER THE INPUT: true; the input reads as it did. -/
def octetOwnSpec : ChangeSpec := { name := "octetOwn", fn := fun _ => fun
  | [d] => { results := [.lit (.bool true)], args := [d] }
  | _ => none }
def octetOwnRow : OpenClaim := { program := "ytdlmnaoaninkaaa", sum := "5c4c981e688e30d5166d0a62deb54199dddd96d78ba7583b4a2d21a750e02e87", func := "paternoster/paternosterlaw01.OctetOwn", spec := "octetOwn", unfollowed := true, recurses := true, apart := false }
def OctetOwnSaid : Prop := octetOwnRow.holds Try.pinned (OpenSpec.ofChange octetOwnSpec)

/-- ITS FALSE NEIGHBOUR: 'it returns false'. Refute it at one input. -/
def octetOwnWrong : ChangeSpec := { name := "octetOwn", fn := fun _ => fun
  | [d] => { results := [.lit (.bool false)], args := [d] }
  | _ => none }
def OctetOwnWrongFalsely : Prop := octetOwnRow.holds Try.pinned (OpenSpec.ofChange octetOwnWrong)

/-- 'paternosterlaw01.OctetParts': WHATEVER THE INPUT: true; the input reads as it did. -/
def octetPartsSpec : ChangeSpec := { name := "octetParts", fn := fun _ => fun
  | [d1, d2, d3] => { results := [.lit (.bool true)], args := [d1, d2, d3] }
  | _ => none }
def octetPartsRow : OpenClaim := { program := "ytdlmnaoaninkaaa", sum := "5c4c981e688e30d5166d0a62deb54199dddd96d78ba7583b4a2d21a750e02e87", func := "paternoster/paternosterlaw01.OctetParts", spec := "octetParts", unfollowed := true, recurses := true, apart := false }
def OctetPartsSaid : Prop := octetPartsRow.holds Try.pinned (OpenSpec.ofChange octetPartsSpec)

/-- ITS FALSE NEIGHBOUR: 'it returns false'. Refute it at one input. -/
def octetPartsWrong : ChangeSpec := { name := "octetParts", fn := fun _ => fun
  | [d1, d2, d3] => { results := [.lit (.bool false)], args := [d1, d2, d3] }
  | _ => none }
def OctetPartsWrongFalsely : Prop := octetPartsRow.holds Try.pinned (OpenSpec.ofChange octetPartsWrong)

/-- 'paternosterlaw01.OctetSizes': WHATEVER THE INPUT: true; the input reads as it did. -/
def octetSizesSpec : ChangeSpec := { name := "octetSizes", fn := fun _ => fun
  | [d1, d2, d3] => { results := [.lit (.bool true)], args := [d1, d2, d3] }
  | _ => none }
def octetSizesRow : OpenClaim := { program := "ytdlmnaoaninkaaa", sum := "5c4c981e688e30d5166d0a62deb54199dddd96d78ba7583b4a2d21a750e02e87", func := "paternoster/paternosterlaw01.OctetSizes", spec := "octetSizes", unfollowed := true, recurses := true, apart := false }
def OctetSizesSaid : Prop := octetSizesRow.holds Try.pinned (OpenSpec.ofChange octetSizesSpec)

/-- ITS FALSE NEIGHBOUR: 'it returns false'. Refute it at one input. -/
def octetSizesWrong : ChangeSpec := { name := "octetSizes", fn := fun _ => fun
  | [d1, d2, d3] => { results := [.lit (.bool false)], args := [d1, d2, d3] }
  | _ => none }
def OctetSizesWrongFalsely : Prop := octetSizesRow.holds Try.pinned (OpenSpec.ofChange octetSizesWrong)

/-- 'paternosterlaw01.OctetTwo': WHATEVER THE INPUT: true; the input reads as it did. -/
def octetTwoSpec : ChangeSpec := { name := "octetTwo", fn := fun _ => fun
  | [d1, d2] => { results := [.lit (.bool true)], args := [d1, d2] }
  | _ => none }
def octetTwoRow : OpenClaim := { program := "ytdlmnaoaninkaaa", sum := "5c4c981e688e30d5166d0a62deb54199dddd96d78ba7583b4a2d21a750e02e87", func := "paternoster/paternosterlaw01.OctetTwo", spec := "octetTwo", unfollowed := true, recurses := true, apart := false }
def OctetTwoSaid : Prop := octetTwoRow.holds Try.pinned (OpenSpec.ofChange octetTwoSpec)

/-- ITS FALSE NEIGHBOUR: 'it returns false'. Refute it at one input. -/
def octetTwoWrong : ChangeSpec := { name := "octetTwo", fn := fun _ => fun
  | [d1, d2] => { results := [.lit (.bool false)], args := [d1, d2] }
  | _ => none }
def OctetTwoWrongFalsely : Prop := octetTwoRow.holds Try.pinned (OpenSpec.ofChange octetTwoWrong)

/-- 'paternosterlaw01.OctetLow': WHATEVER THE INPUT: true; the input reads as it did. -/
def octetLowSpec : ChangeSpec := { name := "octetLow", fn := fun _ => fun
  | [d1, d2] => { results := [.lit (.bool true)], args := [d1, d2] }
  | _ => none }
def octetLowRow : OpenClaim := { program := "ytdlmnaoaninkaaa", sum := "5c4c981e688e30d5166d0a62deb54199dddd96d78ba7583b4a2d21a750e02e87", func := "paternoster/paternosterlaw01.OctetLow", spec := "octetLow", unfollowed := true, recurses := true, apart := false }
def OctetLowSaid : Prop := octetLowRow.holds Try.pinned (OpenSpec.ofChange octetLowSpec)

/-- ITS FALSE NEIGHBOUR: 'it returns false'. Refute it at one input. -/
def octetLowWrong : ChangeSpec := { name := "octetLow", fn := fun _ => fun
  | [d1, d2] => { results := [.lit (.bool false)], args := [d1, d2] }
  | _ => none }
def OctetLowWrongFalsely : Prop := octetLowRow.holds Try.pinned (OpenSpec.ofChange octetLowWrong)

/- THE SECOND FORM. 'bulk': how many values and letters a reading holds, each counted each time it is reached (what is shared counts as often as it is met; a slice's spare places count too). A statement '..UptoSaid' is the law's where the arguments, and the package variables that the reading takes, are together of bulk at most 1048576: NARROWER than '..Said'. Prove '..Said' where nothing that the law and all that it calls make is longer than what came in: it says more and counts as full. Else prove '..UptoSaid'. A law counts once. -/
mutual
def uptoBulk {H : Type} : DataW H → Nat
  | .lit (.string bytes) => bytes.length + 1
  | .lit _ => 1
  | .nil => 1
  | .ptr d => uptoBulk d + 1
  | .slice elems spare => uptoBulkAll elems + uptoBulkAll spare + 1
  | .agg parts => uptoBulkAll parts + 1
  | .iface _ d => uptoBulk d + 1
  | .map entries => uptoBulkEntries entries + 1
  | .held _ => 1
def uptoBulkAll {H : Type} : List (DataW H) → Nat
  | [] => 0
  | d :: r => uptoBulk d + uptoBulkAll r
def uptoBulkEntries {H : Type} : List (Lit × DataW H) → Nat
  | [] => 0
  | x :: r => uptoBulkEntry x + uptoBulkEntries r
def uptoBulkEntry {H : Type} : Lit × DataW H → Nat
  | (.string bytes, d) => bytes.length + uptoBulk d + 1
  | (_, d) => uptoBulk d + 1
 end
def uptoSmall : (H : Type) → List (DataW H) → Bool := fun _ ds => decide (uptoBulkAll ds ≤ 1048576)
def OpenSpec.upto (s : _root_.Go.ChangeSpec) : _root_.Go.OpenSpec := { _root_.Go.OpenSpec.ofChange s with cond := some uptoSmall }

/-- 'paternosterlaw01.OctetPuts', WHERE WHAT IT READS IS OF BULK AT MOST 1048576: true; the input reads as it did. -/
def octetPutsUptoRow : OpenClaim := { program := "ytdlmnaoaninkaaa", sum := "5c4c981e688e30d5166d0a62deb54199dddd96d78ba7583b4a2d21a750e02e87", func := "paternoster/paternosterlaw01.OctetPuts", spec := "octetPuts", unfollowed := true, recurses := true, apart := false, narrowed := true }
def OctetPutsUptoSaid : Prop := octetPutsUptoRow.holds Try.pinned (OpenSpec.upto octetPutsSpec)

/-- 'paternosterlaw01.OctetGets', WHERE WHAT IT READS IS OF BULK AT MOST 1048576: true; the input reads as it did. -/
def octetGetsUptoRow : OpenClaim := { program := "ytdlmnaoaninkaaa", sum := "5c4c981e688e30d5166d0a62deb54199dddd96d78ba7583b4a2d21a750e02e87", func := "paternoster/paternosterlaw01.OctetGets", spec := "octetGets", unfollowed := true, recurses := true, apart := false, narrowed := true }
def OctetGetsUptoSaid : Prop := octetGetsUptoRow.holds Try.pinned (OpenSpec.upto octetGetsSpec)

/-- 'paternosterlaw01.OctetJoins', WHERE WHAT IT READS IS OF BULK AT MOST 1048576: true; the input reads as it did. -/
def octetJoinsUptoRow : OpenClaim := { program := "ytdlmnaoaninkaaa", sum := "5c4c981e688e30d5166d0a62deb54199dddd96d78ba7583b4a2d21a750e02e87", func := "paternoster/paternosterlaw01.OctetJoins", spec := "octetJoins", unfollowed := true, recurses := true, apart := false, narrowed := true }
def OctetJoinsUptoSaid : Prop := octetJoinsUptoRow.holds Try.pinned (OpenSpec.upto octetJoinsSpec)

/-- 'paternosterlaw01.OctetBack', WHERE WHAT IT READS IS OF BULK AT MOST 1048576: true; the input reads as it did. -/
def octetBackUptoRow : OpenClaim := { program := "ytdlmnaoaninkaaa", sum := "5c4c981e688e30d5166d0a62deb54199dddd96d78ba7583b4a2d21a750e02e87", func := "paternoster/paternosterlaw01.OctetBack", spec := "octetBack", unfollowed := true, recurses := true, apart := false, narrowed := true }
def OctetBackUptoSaid : Prop := octetBackUptoRow.holds Try.pinned (OpenSpec.upto octetBackSpec)

/-- 'paternosterlaw01.OctetOwn', WHERE WHAT IT READS IS OF BULK AT MOST 1048576: true; the input reads as it did. -/
def octetOwnUptoRow : OpenClaim := { program := "ytdlmnaoaninkaaa", sum := "5c4c981e688e30d5166d0a62deb54199dddd96d78ba7583b4a2d21a750e02e87", func := "paternoster/paternosterlaw01.OctetOwn", spec := "octetOwn", unfollowed := true, recurses := true, apart := false, narrowed := true }
def OctetOwnUptoSaid : Prop := octetOwnUptoRow.holds Try.pinned (OpenSpec.upto octetOwnSpec)

/-- 'paternosterlaw01.OctetParts', WHERE WHAT IT READS IS OF BULK AT MOST 1048576: true; the input reads as it did. -/
def octetPartsUptoRow : OpenClaim := { program := "ytdlmnaoaninkaaa", sum := "5c4c981e688e30d5166d0a62deb54199dddd96d78ba7583b4a2d21a750e02e87", func := "paternoster/paternosterlaw01.OctetParts", spec := "octetParts", unfollowed := true, recurses := true, apart := false, narrowed := true }
def OctetPartsUptoSaid : Prop := octetPartsUptoRow.holds Try.pinned (OpenSpec.upto octetPartsSpec)

/-- 'paternosterlaw01.OctetSizes', WHERE WHAT IT READS IS OF BULK AT MOST 1048576: true; the input reads as it did. -/
def octetSizesUptoRow : OpenClaim := { program := "ytdlmnaoaninkaaa", sum := "5c4c981e688e30d5166d0a62deb54199dddd96d78ba7583b4a2d21a750e02e87", func := "paternoster/paternosterlaw01.OctetSizes", spec := "octetSizes", unfollowed := true, recurses := true, apart := false, narrowed := true }
def OctetSizesUptoSaid : Prop := octetSizesUptoRow.holds Try.pinned (OpenSpec.upto octetSizesSpec)

/-- 'paternosterlaw01.OctetTwo', WHERE WHAT IT READS IS OF BULK AT MOST 1048576: true; the input reads as it did. -/
def octetTwoUptoRow : OpenClaim := { program := "ytdlmnaoaninkaaa", sum := "5c4c981e688e30d5166d0a62deb54199dddd96d78ba7583b4a2d21a750e02e87", func := "paternoster/paternosterlaw01.OctetTwo", spec := "octetTwo", unfollowed := true, recurses := true, apart := false, narrowed := true }
def OctetTwoUptoSaid : Prop := octetTwoUptoRow.holds Try.pinned (OpenSpec.upto octetTwoSpec)

/-- 'paternosterlaw01.OctetLow', WHERE WHAT IT READS IS OF BULK AT MOST 1048576: true; the input reads as it did. -/
def octetLowUptoRow : OpenClaim := { program := "ytdlmnaoaninkaaa", sum := "5c4c981e688e30d5166d0a62deb54199dddd96d78ba7583b4a2d21a750e02e87", func := "paternoster/paternosterlaw01.OctetLow", spec := "octetLow", unfollowed := true, recurses := true, apart := false, narrowed := true }
def OctetLowUptoSaid : Prop := octetLowUptoRow.holds Try.pinned (OpenSpec.upto octetLowSpec)

end Rows
end Go.Proofs.Ytdlmnaoaninkaaa
