/-
  NARROWER THAN 'FOR EVERY INPUT', by the rows' own cells (each row's printed sentence says how): CrcOf: laid · CrcSeals: laid · CrcTurns: laid · CrcXors: laid · CrcSame: laid · CrcShort: laid.
  DERIVED. THE GIVEN ROWS OF THIS SEAT. 6 by the template 'for every input the law returns true; each argument reads behind the call as it read before'; 0 by the template 'total and deterministic' (their statements: YtmegcockgohkhaaDoorTotals.lean).
  GIVEN WITH THE SEED: the statements are not yours to turn. If you find one false, say at which input.
  Laid BY PROGRAM, IN A SANDBOX (cutbox-rows.mjs): the forced cells as the released guide's own fill.sh prints them over the translation 6435c7c1cc4d2999… (all of the seat's roots in one cut). By AI agents, Wed Nov 11 2026. No macro, syntax, notation, axiom, sorry.
-/
import Derived.Test.YtmegcockgohkhaaDoorChecked
import GoSem.Claim
import GoSem.ClaimJoined
import GoSem.ClaimMapViews
import Derived.JoinedTies
import Derived.KernelRfl
namespace Go.Proofs.YtmegcockgohkhaaDoor
/- THE CELL 'sum', in the pinned program and in every row, IS THE sha256 OF THE DUMP (.gsa) THAT YtmegcockgohkhaaDoorProg.lean LOADS. Nothing in Lean hashes anything: it is a label: what it is worth is what the hold of that sum in a sandbox is worth. -/
noncomputable def Tryd.pinned : Pinned := { name := "ytmegcockgohkhaadoor", sum := "6435c7c1cc4d299932bab1a54655e57db6ccdb8fe1335036195622586763e4e6", checked := Tryd.checked }
namespace Rows
def none {H : Type} : Left H := { results := [], args := [] }

/- WHAT THE LISTED PACKAGE-LEVEL VARIABLES READ AS WHEN THE CALL BEGINS. Each datum BY PROGRAM (the guide's laid-datum.mjs) off the statement by which the dump's own 'gosem.cut.vars' lays the variable. In a bare row this is a premise. The card (YtmegcockgohkhaaDoorCards.lean) ties it to the program's text. -/
def laid_paternoster_crc_half {H : Type} : DataW H := .agg [.lit (.int .u32 0), .lit (.int .u32 498536548), .lit (.int .u32 997073096), .lit (.int .u32 651767980), .lit (.int .u32 1994146192), .lit (.int .u32 1802195444), .lit (.int .u32 1303535960), .lit (.int .u32 1342533948), .lit (.int .u32 3988292384), .lit (.int .u32 4027552580), .lit (.int .u32 3604390888), .lit (.int .u32 3412177804), .lit (.int .u32 2607071920), .lit (.int .u32 2262029012), .lit (.int .u32 2685067896), .lit (.int .u32 3183342108)]

/-- 'paternosterlaw02.CrcOf': WHATEVER THE INPUT: true; the input reads as it did. -/
def crcOfSpec : ChangeSpec := { name := "crcOf", fn := fun _ => fun
  | [d1, d2, d3] => { results := [.lit (.bool true)], args := [d1, d2, d3] }
  | _ => none }
def crcOfRow : OpenClaim := { program := "ytmegcockgohkhaadoor", sum := "6435c7c1cc4d299932bab1a54655e57db6ccdb8fe1335036195622586763e4e6", func := "paternoster/paternosterlaw02.CrcOf", spec := "crcOf", named := ["paternoster/crc.half"], apart := false, laid := [("paternoster/crc.half", laid_paternoster_crc_half)] }
def CrcOfSaid : Prop := crcOfRow.holds Tryd.pinned (OpenSpec.ofChange crcOfSpec)

/-- ITS FALSE NEIGHBOUR: 'it returns false'. Refute it at one input. -/
def crcOfWrong : ChangeSpec := { name := "crcOf", fn := fun _ => fun
  | [d1, d2, d3] => { results := [.lit (.bool false)], args := [d1, d2, d3] }
  | _ => none }
def CrcOfWrongFalsely : Prop := crcOfRow.holds Tryd.pinned (OpenSpec.ofChange crcOfWrong)

/-- 'paternosterlaw02.CrcSeals': WHATEVER THE INPUT: true; the input reads as it did. -/
def crcSealsSpec : ChangeSpec := { name := "crcSeals", fn := fun _ => fun
  | [d1, d2] => { results := [.lit (.bool true)], args := [d1, d2] }
  | _ => none }
def crcSealsRow : OpenClaim := { program := "ytmegcockgohkhaadoor", sum := "6435c7c1cc4d299932bab1a54655e57db6ccdb8fe1335036195622586763e4e6", func := "paternoster/paternosterlaw02.CrcSeals", spec := "crcSeals", named := ["paternoster/crc.half"], apart := false, laid := [("paternoster/crc.half", laid_paternoster_crc_half)] }
def CrcSealsSaid : Prop := crcSealsRow.holds Tryd.pinned (OpenSpec.ofChange crcSealsSpec)

/-- ITS FALSE NEIGHBOUR: 'it returns false'. Refute it at one input. -/
def crcSealsWrong : ChangeSpec := { name := "crcSeals", fn := fun _ => fun
  | [d1, d2] => { results := [.lit (.bool false)], args := [d1, d2] }
  | _ => none }
def CrcSealsWrongFalsely : Prop := crcSealsRow.holds Tryd.pinned (OpenSpec.ofChange crcSealsWrong)

/-- 'paternosterlaw02.CrcTurns': WHATEVER THE INPUT: true; the input reads as it did. -/
def crcTurnsSpec : ChangeSpec := { name := "crcTurns", fn := fun _ => fun
  | [d1, d2, d3] => { results := [.lit (.bool true)], args := [d1, d2, d3] }
  | _ => none }
def crcTurnsRow : OpenClaim := { program := "ytmegcockgohkhaadoor", sum := "6435c7c1cc4d299932bab1a54655e57db6ccdb8fe1335036195622586763e4e6", func := "paternoster/paternosterlaw02.CrcTurns", spec := "crcTurns", named := ["paternoster/crc.half"], apart := false, laid := [("paternoster/crc.half", laid_paternoster_crc_half)] }
def CrcTurnsSaid : Prop := crcTurnsRow.holds Tryd.pinned (OpenSpec.ofChange crcTurnsSpec)

/-- ITS FALSE NEIGHBOUR: 'it returns false'. Refute it at one input. -/
def crcTurnsWrong : ChangeSpec := { name := "crcTurns", fn := fun _ => fun
  | [d1, d2, d3] => { results := [.lit (.bool false)], args := [d1, d2, d3] }
  | _ => none }
def CrcTurnsWrongFalsely : Prop := crcTurnsRow.holds Tryd.pinned (OpenSpec.ofChange crcTurnsWrong)

/-- 'paternosterlaw02.CrcXors': WHATEVER THE INPUT: true; the input reads as it did. -/
def crcXorsSpec : ChangeSpec := { name := "crcXors", fn := fun _ => fun
  | [d1, d2, d3] => { results := [.lit (.bool true)], args := [d1, d2, d3] }
  | _ => none }
def crcXorsRow : OpenClaim := { program := "ytmegcockgohkhaadoor", sum := "6435c7c1cc4d299932bab1a54655e57db6ccdb8fe1335036195622586763e4e6", func := "paternoster/paternosterlaw02.CrcXors", spec := "crcXors", named := ["paternoster/crc.half"], apart := false, laid := [("paternoster/crc.half", laid_paternoster_crc_half)] }
def CrcXorsSaid : Prop := crcXorsRow.holds Tryd.pinned (OpenSpec.ofChange crcXorsSpec)

/-- ITS FALSE NEIGHBOUR: 'it returns false'. Refute it at one input. -/
def crcXorsWrong : ChangeSpec := { name := "crcXors", fn := fun _ => fun
  | [d1, d2, d3] => { results := [.lit (.bool false)], args := [d1, d2, d3] }
  | _ => none }
def CrcXorsWrongFalsely : Prop := crcXorsRow.holds Tryd.pinned (OpenSpec.ofChange crcXorsWrong)

/-- 'paternosterlaw02.CrcSame': WHATEVER THE INPUT: true; the input reads as it did. -/
def crcSameSpec : ChangeSpec := { name := "crcSame", fn := fun _ => fun
  | [d] => { results := [.lit (.bool true)], args := [d] }
  | _ => none }
def crcSameRow : OpenClaim := { program := "ytmegcockgohkhaadoor", sum := "6435c7c1cc4d299932bab1a54655e57db6ccdb8fe1335036195622586763e4e6", func := "paternoster/paternosterlaw02.CrcSame", spec := "crcSame", named := ["paternoster/crc.half"], apart := false, laid := [("paternoster/crc.half", laid_paternoster_crc_half)] }
def CrcSameSaid : Prop := crcSameRow.holds Tryd.pinned (OpenSpec.ofChange crcSameSpec)

/-- ITS FALSE NEIGHBOUR: 'it returns false'. Refute it at one input. -/
def crcSameWrong : ChangeSpec := { name := "crcSame", fn := fun _ => fun
  | [d] => { results := [.lit (.bool false)], args := [d] }
  | _ => none }
def CrcSameWrongFalsely : Prop := crcSameRow.holds Tryd.pinned (OpenSpec.ofChange crcSameWrong)

/-- 'paternosterlaw02.CrcShort': WHATEVER THE INPUT: true; the input reads as it did. -/
def crcShortSpec : ChangeSpec := { name := "crcShort", fn := fun _ => fun
  | [d] => { results := [.lit (.bool true)], args := [d] }
  | _ => none }
def crcShortRow : OpenClaim := { program := "ytmegcockgohkhaadoor", sum := "6435c7c1cc4d299932bab1a54655e57db6ccdb8fe1335036195622586763e4e6", func := "paternoster/paternosterlaw02.CrcShort", spec := "crcShort", named := ["paternoster/crc.half"], apart := false, laid := [("paternoster/crc.half", laid_paternoster_crc_half)] }
def CrcShortSaid : Prop := crcShortRow.holds Tryd.pinned (OpenSpec.ofChange crcShortSpec)

/-- ITS FALSE NEIGHBOUR: 'it returns false'. Refute it at one input. -/
def crcShortWrong : ChangeSpec := { name := "crcShort", fn := fun _ => fun
  | [d] => { results := [.lit (.bool false)], args := [d] }
  | _ => none }
def CrcShortWrongFalsely : Prop := crcShortRow.holds Tryd.pinned (OpenSpec.ofChange crcShortWrong)

/- THE SECOND FORM. 'bulk': how many values and letters a reading holds, each counted each time it is reached (what is shared counts as often as it is met; a slice's spare places count too). A statement '..UptoSaid' is the law's where the arguments, and the package variables that the reading takes, are together of bulk at most 1048576: NARROWER than '..Said'. Prove '..Said' where nothing that the law and all that it calls make is longer than what came in: it says more and counts as full. Else prove '..UptoSaid'. A law counts once. -/
mutual
def uptoBulk {H : Type} : DataW H → Nat
  | .lit (.string bytes) => bytes.length + 1
  | .lit _ => 1
  | .nil => 1
  | .ptr d => uptoBulk d + 1
  | .slice elems spare => uptoBulkAll elems + uptoBulkAll spare + 1
  | .agg parts => uptoBulkAll parts + 1
  | .iface _ d => uptoBulk d + 1
  | .map entries => uptoBulkEntries entries + 1
  | .held _ => 1
def uptoBulkAll {H : Type} : List (DataW H) → Nat
  | [] => 0
  | d :: r => uptoBulk d + uptoBulkAll r
def uptoBulkEntries {H : Type} : List (Lit × DataW H) → Nat
  | [] => 0
  | x :: r => uptoBulkEntry x + uptoBulkEntries r
def uptoBulkEntry {H : Type} : Lit × DataW H → Nat
  | (.string bytes, d) => bytes.length + uptoBulk d + 1
  | (_, d) => uptoBulk d + 1
 end
def uptoSmall : (H : Type) → List (DataW H) → Bool := fun _ ds => decide (uptoBulkAll ds ≤ 1048576)
def OpenSpec.upto (s : _root_.Go.ChangeSpec) : _root_.Go.OpenSpec := { _root_.Go.OpenSpec.ofChange s with cond := some uptoSmall }

/-- 'paternosterlaw02.CrcOf', WHERE WHAT IT READS IS OF BULK AT MOST 1048576: true; the input reads as it did. -/
def crcOfUptoRow : OpenClaim := { program := "ytmegcockgohkhaadoor", sum := "6435c7c1cc4d299932bab1a54655e57db6ccdb8fe1335036195622586763e4e6", func := "paternoster/paternosterlaw02.CrcOf", spec := "crcOf", named := ["paternoster/crc.half"], apart := false, laid := [("paternoster/crc.half", laid_paternoster_crc_half)], narrowed := true }
def CrcOfUptoSaid : Prop := crcOfUptoRow.holds Tryd.pinned (OpenSpec.upto crcOfSpec)

/-- 'paternosterlaw02.CrcSeals', WHERE WHAT IT READS IS OF BULK AT MOST 1048576: true; the input reads as it did. -/
def crcSealsUptoRow : OpenClaim := { program := "ytmegcockgohkhaadoor", sum := "6435c7c1cc4d299932bab1a54655e57db6ccdb8fe1335036195622586763e4e6", func := "paternoster/paternosterlaw02.CrcSeals", spec := "crcSeals", named := ["paternoster/crc.half"], apart := false, laid := [("paternoster/crc.half", laid_paternoster_crc_half)], narrowed := true }
def CrcSealsUptoSaid : Prop := crcSealsUptoRow.holds Tryd.pinned (OpenSpec.upto crcSealsSpec)

/-- 'paternosterlaw02.CrcTurns', WHERE WHAT IT READS IS OF BULK AT MOST 1048576: true; the input reads as it did. -/
def crcTurnsUptoRow : OpenClaim := { program := "ytmegcockgohkhaadoor", sum := "6435c7c1cc4d299932bab1a54655e57db6ccdb8fe1335036195622586763e4e6", func := "paternoster/paternosterlaw02.CrcTurns", spec := "crcTurns", named := ["paternoster/crc.half"], apart := false, laid := [("paternoster/crc.half", laid_paternoster_crc_half)], narrowed := true }
def CrcTurnsUptoSaid : Prop := crcTurnsUptoRow.holds Tryd.pinned (OpenSpec.upto crcTurnsSpec)

/-- 'paternosterlaw02.CrcXors', WHERE WHAT IT READS IS OF BULK AT MOST 1048576: true; the input reads as it did. -/
def crcXorsUptoRow : OpenClaim := { program := "ytmegcockgohkhaadoor", sum := "6435c7c1cc4d299932bab1a54655e57db6ccdb8fe1335036195622586763e4e6", func := "paternoster/paternosterlaw02.CrcXors", spec := "crcXors", named := ["paternoster/crc.half"], apart := false, laid := [("paternoster/crc.half", laid_paternoster_crc_half)], narrowed := true }
def CrcXorsUptoSaid : Prop := crcXorsUptoRow.holds Tryd.pinned (OpenSpec.upto crcXorsSpec)

/-- 'paternosterlaw02.CrcSame', WHERE WHAT IT READS IS OF BULK AT MOST 1048576: true; the input reads as it did. -/
def crcSameUptoRow : OpenClaim := { program := "ytmegcockgohkhaadoor", sum := "6435c7c1cc4d299932bab1a54655e57db6ccdb8fe1335036195622586763e4e6", func := "paternoster/paternosterlaw02.CrcSame", spec := "crcSame", named := ["paternoster/crc.half"], apart := false, laid := [("paternoster/crc.half", laid_paternoster_crc_half)], narrowed := true }
def CrcSameUptoSaid : Prop := crcSameUptoRow.holds Tryd.pinned (OpenSpec.upto crcSameSpec)

/-- 'paternosterlaw02.CrcShort', WHERE WHAT IT READS IS OF BULK AT MOST 1048576: true; the input reads as it did. -/
def crcShortUptoRow : OpenClaim := { program := "ytmegcockgohkhaadoor", sum := "6435c7c1cc4d299932bab1a54655e57db6ccdb8fe1335036195622586763e4e6", func := "paternoster/paternosterlaw02.CrcShort", spec := "crcShort", named := ["paternoster/crc.half"], apart := false, laid := [("paternoster/crc.half", laid_paternoster_crc_half)], narrowed := true }
def CrcShortUptoSaid : Prop := crcShortUptoRow.holds Tryd.pinned (OpenSpec.upto crcShortSpec)

end Rows
end Go.Proofs.YtmegcockgohkhaaDoor
