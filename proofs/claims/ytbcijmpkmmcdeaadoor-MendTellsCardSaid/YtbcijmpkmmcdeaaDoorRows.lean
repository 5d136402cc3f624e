/-
  NARROWER THAN 'FOR EVERY INPUT', by the rows' own cells (each row's printed sentence says how): MendTells: laid · MendNone: laid · MendFirst: laid · JournalPuts: laid · JournalPlays: laid · JournalBack: laid · JournalAhead: laid · JournalTurns: laid · JournalNone: laid · MendSafe: laid.
  DERIVED. THE GIVEN ROWS OF THIS SEAT. 10 by the template 'for every input the law returns true; each argument reads behind the call as it read before'; 0 by the template 'total and deterministic' (their statements: YtbcijmpkmmcdeaaDoorTotals.lean).
  GIVEN WITH THE SEED: the statements are not yours to turn. If you find one false, say at which input.
  Laid BY PROGRAM, IN A SANDBOX (cutbox-rows.mjs): the forced cells as the released guide's own fill.sh prints them over the translation f19c69d142d9a161… (all of the seat's roots in one cut). By AI agents, Wed Nov 11 2026. No macro, syntax, notation, axiom, sorry.
-/
import Derived.Test.YtbcijmpkmmcdeaaDoorChecked
import GoSem.Claim
import GoSem.ClaimJoined
import GoSem.ClaimMapViews
import Derived.JoinedTies
import Derived.KernelRfl
namespace Go.Proofs.YtbcijmpkmmcdeaaDoor
/- THE CELL 'sum', in the pinned program and in every row, IS THE sha256 OF THE DUMP (.gsa) THAT YtbcijmpkmmcdeaaDoorProg.lean LOADS. Nothing in Lean hashes anything: it is a label: what it is worth is what the hold of that sum in a sandbox is worth. -/
noncomputable def Tryd.pinned : Pinned := { name := "ytbcijmpkmmcdeaadoor", sum := "f19c69d142d9a16122b590d0befe8d84efd8ce00718ba97a060329c52b0c77a6", checked := Tryd.checked }
namespace Rows
def none {H : Type} : Left H := { results := [], args := [] }

/- WHAT THE LISTED PACKAGE-LEVEL VARIABLES READ AS WHEN THE CALL BEGINS. Each datum BY PROGRAM (the guide's laid-datum.mjs) off the statement by which the dump's own 'gosem.cut.vars' lays the variable. In a bare row this is a premise. The card (YtbcijmpkmmcdeaaDoorCards.lean) ties it to the program's text. -/
def laid_paternoster_crc_half {H : Type} : DataW H := .agg [.lit (.int .u32 0), .lit (.int .u32 498536548), .lit (.int .u32 997073096), .lit (.int .u32 651767980), .lit (.int .u32 1994146192), .lit (.int .u32 1802195444), .lit (.int .u32 1303535960), .lit (.int .u32 1342533948), .lit (.int .u32 3988292384), .lit (.int .u32 4027552580), .lit (.int .u32 3604390888), .lit (.int .u32 3412177804), .lit (.int .u32 2607071920), .lit (.int .u32 2262029012), .lit (.int .u32 2685067896), .lit (.int .u32 3183342108)]

/-- 'paternosterlaw17.MendTells': WHATEVER THE INPUT: true; the input reads as it did. -/
def mendTellsSpec : ChangeSpec := { name := "mendTells", fn := fun _ => fun
  | [d1, d2, d3, d4] => { results := [.lit (.bool true)], args := [d1, d2, d3, d4] }
  | _ => none }
def mendTellsRow : OpenClaim := { program := "ytbcijmpkmmcdeaadoor", sum := "f19c69d142d9a16122b590d0befe8d84efd8ce00718ba97a060329c52b0c77a6", func := "paternoster/paternosterlaw17.MendTells", spec := "mendTells", unfollowed := true, recurses := true, named := ["paternoster/crc.half"], apart := false, laid := [("paternoster/crc.half", laid_paternoster_crc_half)] }
def MendTellsSaid : Prop := mendTellsRow.holds Tryd.pinned (OpenSpec.ofChange mendTellsSpec)

/-- ITS FALSE NEIGHBOUR: 'it returns false'. Refute it at one input. -/
def mendTellsWrong : ChangeSpec := { name := "mendTells", fn := fun _ => fun
  | [d1, d2, d3, d4] => { results := [.lit (.bool false)], args := [d1, d2, d3, d4] }
  | _ => none }
def MendTellsWrongFalsely : Prop := mendTellsRow.holds Tryd.pinned (OpenSpec.ofChange mendTellsWrong)

/-- 'paternosterlaw17.MendNone': WHATEVER THE INPUT: true; the input reads as it did. -/
def mendNoneSpec : ChangeSpec := { name := "mendNone", fn := fun _ => fun
  | [d1, d2, d3, d4] => { results := [.lit (.bool true)], args := [d1, d2, d3, d4] }
  | _ => none }
def mendNoneRow : OpenClaim := { program := "ytbcijmpkmmcdeaadoor", sum := "f19c69d142d9a16122b590d0befe8d84efd8ce00718ba97a060329c52b0c77a6", func := "paternoster/paternosterlaw17.MendNone", spec := "mendNone", unfollowed := true, recurses := true, named := ["paternoster/crc.half"], apart := false, laid := [("paternoster/crc.half", laid_paternoster_crc_half)] }
def MendNoneSaid : Prop := mendNoneRow.holds Tryd.pinned (OpenSpec.ofChange mendNoneSpec)

/-- ITS FALSE NEIGHBOUR: 'it returns false'. Refute it at one input. -/
def mendNoneWrong : ChangeSpec := { name := "mendNone", fn := fun _ => fun
  | [d1, d2, d3, d4] => { results := [.lit (.bool false)], args := [d1, d2, d3, d4] }
  | _ => none }
def MendNoneWrongFalsely : Prop := mendNoneRow.holds Tryd.pinned (OpenSpec.ofChange mendNoneWrong)

/-- 'paternosterlaw17.MendFirst': WHATEVER THE INPUT: true; the input reads as it did. -/
def mendFirstSpec : ChangeSpec := { name := "mendFirst", fn := fun _ => fun
  | [d1, d2, d3] => { results := [.lit (.bool true)], args := [d1, d2, d3] }
  | _ => none }
def mendFirstRow : OpenClaim := { program := "ytbcijmpkmmcdeaadoor", sum := "f19c69d142d9a16122b590d0befe8d84efd8ce00718ba97a060329c52b0c77a6", func := "paternoster/paternosterlaw17.MendFirst", spec := "mendFirst", unfollowed := true, recurses := true, named := ["paternoster/crc.half"], apart := false, laid := [("paternoster/crc.half", laid_paternoster_crc_half)] }
def MendFirstSaid : Prop := mendFirstRow.holds Tryd.pinned (OpenSpec.ofChange mendFirstSpec)

/-- ITS FALSE NEIGHBOUR: 'it returns false'. Refute it at one input. -/
def mendFirstWrong : ChangeSpec := { name := "mendFirst", fn := fun _ => fun
  | [d1, d2, d3] => { results := [.lit (.bool false)], args := [d1, d2, d3] }
  | _ => none }
def MendFirstWrongFalsely : Prop := mendFirstRow.holds Tryd.pinned (OpenSpec.ofChange mendFirstWrong)

/-- 'paternosterlaw16.JournalPuts': WHATEVER THE INPUT: true; the input reads as it did. -/
def journalPutsSpec : ChangeSpec := { name := "journalPuts", fn := fun _ => fun
  | [d1, d2, d3] => { results := [.lit (.bool true)], args := [d1, d2, d3] }
  | _ => none }
def journalPutsRow : OpenClaim := { program := "ytbcijmpkmmcdeaadoor", sum := "f19c69d142d9a16122b590d0befe8d84efd8ce00718ba97a060329c52b0c77a6", func := "paternoster/paternosterlaw16.JournalPuts", spec := "journalPuts", unfollowed := true, recurses := true, named := ["paternoster/crc.half"], apart := false, laid := [("paternoster/crc.half", laid_paternoster_crc_half)] }
def JournalPutsSaid : Prop := journalPutsRow.holds Tryd.pinned (OpenSpec.ofChange journalPutsSpec)

/-- ITS FALSE NEIGHBOUR: 'it returns false'. Refute it at one input. -/
def journalPutsWrong : ChangeSpec := { name := "journalPuts", fn := fun _ => fun
  | [d1, d2, d3] => { results := [.lit (.bool false)], args := [d1, d2, d3] }
  | _ => none }
def JournalPutsWrongFalsely : Prop := journalPutsRow.holds Tryd.pinned (OpenSpec.ofChange journalPutsWrong)

/-- 'paternosterlaw16.JournalPlays': WHATEVER THE INPUT: true; the input reads as it did. -/
def journalPlaysSpec : ChangeSpec := { name := "journalPlays", fn := fun _ => fun
  | [d1, d2, d3] => { results := [.lit (.bool true)], args := [d1, d2, d3] }
  | _ => none }
def journalPlaysRow : OpenClaim := { program := "ytbcijmpkmmcdeaadoor", sum := "f19c69d142d9a16122b590d0befe8d84efd8ce00718ba97a060329c52b0c77a6", func := "paternoster/paternosterlaw16.JournalPlays", spec := "journalPlays", unfollowed := true, recurses := true, named := ["paternoster/crc.half"], apart := false, laid := [("paternoster/crc.half", laid_paternoster_crc_half)] }
def JournalPlaysSaid : Prop := journalPlaysRow.holds Tryd.pinned (OpenSpec.ofChange journalPlaysSpec)

/-- ITS FALSE NEIGHBOUR: 'it returns false'. Refute it at one input. -/
def journalPlaysWrong : ChangeSpec := { name := "journalPlays", fn := fun _ => fun
  | [d1, d2, d3] => { results := [.lit (.bool false)], args := [d1, d2, d3] }
  | _ => none }
def JournalPlaysWrongFalsely : Prop := journalPlaysRow.holds Tryd.pinned (OpenSpec.ofChange journalPlaysWrong)

/-- 'paternosterlaw16.JournalBack': WHATEVER THE INPUT: true; the input reads as it did. -/
def journalBackSpec : ChangeSpec := { name := "journalBack", fn := fun _ => fun
  | [d1, d2] => { results := [.lit (.bool true)], args := [d1, d2] }
  | _ => none }
def journalBackRow : OpenClaim := { program := "ytbcijmpkmmcdeaadoor", sum := "f19c69d142d9a16122b590d0befe8d84efd8ce00718ba97a060329c52b0c77a6", func := "paternoster/paternosterlaw16.JournalBack", spec := "journalBack", unfollowed := true, recurses := true, named := ["paternoster/crc.half"], apart := false, laid := [("paternoster/crc.half", laid_paternoster_crc_half)] }
def JournalBackSaid : Prop := journalBackRow.holds Tryd.pinned (OpenSpec.ofChange journalBackSpec)

/-- ITS FALSE NEIGHBOUR: 'it returns false'. Refute it at one input. -/
def journalBackWrong : ChangeSpec := { name := "journalBack", fn := fun _ => fun
  | [d1, d2] => { results := [.lit (.bool false)], args := [d1, d2] }
  | _ => none }
def JournalBackWrongFalsely : Prop := journalBackRow.holds Tryd.pinned (OpenSpec.ofChange journalBackWrong)

/-- 'paternosterlaw16.JournalAhead': WHATEVER THE INPUT: true; the input reads as it did. -/
def journalAheadSpec : ChangeSpec := { name := "journalAhead", fn := fun _ => fun
  | [d1, d2, d3, d4] => { results := [.lit (.bool true)], args := [d1, d2, d3, d4] }
  | _ => none }
def journalAheadRow : OpenClaim := { program := "ytbcijmpkmmcdeaadoor", sum := "f19c69d142d9a16122b590d0befe8d84efd8ce00718ba97a060329c52b0c77a6", func := "paternoster/paternosterlaw16.JournalAhead", spec := "journalAhead", unfollowed := true, recurses := true, named := ["paternoster/crc.half"], apart := false, laid := [("paternoster/crc.half", laid_paternoster_crc_half)] }
def JournalAheadSaid : Prop := journalAheadRow.holds Tryd.pinned (OpenSpec.ofChange journalAheadSpec)

/-- ITS FALSE NEIGHBOUR: 'it returns false'. Refute it at one input. -/
def journalAheadWrong : ChangeSpec := { name := "journalAhead", fn := fun _ => fun
  | [d1, d2, d3, d4] => { results := [.lit (.bool false)], args := [d1, d2, d3, d4] }
  | _ => none }
def JournalAheadWrongFalsely : Prop := journalAheadRow.holds Tryd.pinned (OpenSpec.ofChange journalAheadWrong)

/-- 'paternosterlaw16.JournalTurns': WHATEVER THE INPUT: true; the input reads as it did. -/
def journalTurnsSpec : ChangeSpec := { name := "journalTurns", fn := fun _ => fun
  | [d] => { results := [.lit (.bool true)], args := [d] }
  | _ => none }
def journalTurnsRow : OpenClaim := { program := "ytbcijmpkmmcdeaadoor", sum := "f19c69d142d9a16122b590d0befe8d84efd8ce00718ba97a060329c52b0c77a6", func := "paternoster/paternosterlaw16.JournalTurns", spec := "journalTurns", unfollowed := true, recurses := true, named := ["paternoster/crc.half"], apart := false, laid := [("paternoster/crc.half", laid_paternoster_crc_half)] }
def JournalTurnsSaid : Prop := journalTurnsRow.holds Tryd.pinned (OpenSpec.ofChange journalTurnsSpec)

/-- ITS FALSE NEIGHBOUR: 'it returns false'. Refute it at one input. -/
def journalTurnsWrong : ChangeSpec := { name := "journalTurns", fn := fun _ => fun
  | [d] => { results := [.lit (.bool false)], args := [d] }
  | _ => none }
def JournalTurnsWrongFalsely : Prop := journalTurnsRow.holds Tryd.pinned (OpenSpec.ofChange journalTurnsWrong)

/-- 'paternosterlaw16.JournalNone': WHATEVER THE INPUT: true; the input reads as it did. -/
def journalNoneSpec : ChangeSpec := { name := "journalNone", fn := fun _ => fun
  | [d1, d2, d3, d4] => { results := [.lit (.bool true)], args := [d1, d2, d3, d4] }
  | _ => none }
def journalNoneRow : OpenClaim := { program := "ytbcijmpkmmcdeaadoor", sum := "f19c69d142d9a16122b590d0befe8d84efd8ce00718ba97a060329c52b0c77a6", func := "paternoster/paternosterlaw16.JournalNone", spec := "journalNone", unfollowed := true, recurses := true, named := ["paternoster/crc.half"], apart := false, laid := [("paternoster/crc.half", laid_paternoster_crc_half)] }
def JournalNoneSaid : Prop := journalNoneRow.holds Tryd.pinned (OpenSpec.ofChange journalNoneSpec)

/-- ITS FALSE NEIGHBOUR: 'it returns false'. Refute it at one input. -/
def journalNoneWrong : ChangeSpec := { name := "journalNone", fn := fun _ => fun
  | [d1, d2, d3, d4] => { results := [.lit (.bool false)], args := [d1, d2, d3, d4] }
  | _ => none }
def JournalNoneWrongFalsely : Prop := journalNoneRow.holds Tryd.pinned (OpenSpec.ofChange journalNoneWrong)

/-- 'paternosterlaw17.MendSafe': WHATEVER THE INPUT: true; the input reads as it did. -/
def mendSafeSpec : ChangeSpec := { name := "mendSafe", fn := fun _ => fun
  | [d1, d2, d3, d4] => { results := [.lit (.bool true)], args := [d1, d2, d3, d4] }
  | _ => none }
def mendSafeRow : OpenClaim := { program := "ytbcijmpkmmcdeaadoor", sum := "f19c69d142d9a16122b590d0befe8d84efd8ce00718ba97a060329c52b0c77a6", func := "paternoster/paternosterlaw17.MendSafe", spec := "mendSafe", unfollowed := true, recurses := true, named := ["paternoster/crc.half"], apart := false, laid := [("paternoster/crc.half", laid_paternoster_crc_half)] }
def MendSafeSaid : Prop := mendSafeRow.holds Tryd.pinned (OpenSpec.ofChange mendSafeSpec)

/-- ITS FALSE NEIGHBOUR: 'it returns false'. Refute it at one input. -/
def mendSafeWrong : ChangeSpec := { name := "mendSafe", fn := fun _ => fun
  | [d1, d2, d3, d4] => { results := [.lit (.bool false)], args := [d1, d2, d3, d4] }
  | _ => none }
def MendSafeWrongFalsely : Prop := mendSafeRow.holds Tryd.pinned (OpenSpec.ofChange mendSafeWrong)

/- THE SECOND FORM. 'bulk': how many values and letters a reading holds, each counted each time it is reached (what is shared counts as often as it is met; a slice's spare places count too). A statement '..UptoSaid' is the law's where the arguments, and the package variables that the reading takes, are together of bulk at most 1048576: NARROWER than '..Said'. Prove '..Said' where nothing that the law and all that it calls make is longer than what came in: it says more and counts as full. Else prove '..UptoSaid'. A law counts once. -/
mutual
def uptoBulk {H : Type} : DataW H → Nat
  | .lit (.string bytes) => bytes.length + 1
  | .lit _ => 1
  | .nil => 1
  | .ptr d => uptoBulk d + 1
  | .slice elems spare => uptoBulkAll elems + uptoBulkAll spare + 1
  | .agg parts => uptoBulkAll parts + 1
  | .iface _ d => uptoBulk d + 1
  | .map entries => uptoBulkEntries entries + 1
  | .held _ => 1
def uptoBulkAll {H : Type} : List (DataW H) → Nat
  | [] => 0
  | d :: r => uptoBulk d + uptoBulkAll r
def uptoBulkEntries {H : Type} : List (Lit × DataW H) → Nat
  | [] => 0
  | x :: r => uptoBulkEntry x + uptoBulkEntries r
def uptoBulkEntry {H : Type} : Lit × DataW H → Nat
  | (.string bytes, d) => bytes.length + uptoBulk d + 1
  | (_, d) => uptoBulk d + 1
 end
def uptoSmall : (H : Type) → List (DataW H) → Bool := fun _ ds => decide (uptoBulkAll ds ≤ 1048576)
def OpenSpec.upto (s : _root_.Go.ChangeSpec) : _root_.Go.OpenSpec := { _root_.Go.OpenSpec.ofChange s with cond := some uptoSmall }

/-- 'paternosterlaw17.MendTells', WHERE WHAT IT READS IS OF BULK AT MOST 1048576: true; the input reads as it did. -/
def mendTellsUptoRow : OpenClaim := { program := "ytbcijmpkmmcdeaadoor", sum := "f19c69d142d9a16122b590d0befe8d84efd8ce00718ba97a060329c52b0c77a6", func := "paternoster/paternosterlaw17.MendTells", spec := "mendTells", unfollowed := true, recurses := true, named := ["paternoster/crc.half"], apart := false, laid := [("paternoster/crc.half", laid_paternoster_crc_half)], narrowed := true }
def MendTellsUptoSaid : Prop := mendTellsUptoRow.holds Tryd.pinned (OpenSpec.upto mendTellsSpec)

/-- 'paternosterlaw17.MendNone', WHERE WHAT IT READS IS OF BULK AT MOST 1048576: true; the input reads as it did. -/
def mendNoneUptoRow : OpenClaim := { program := "ytbcijmpkmmcdeaadoor", sum := "f19c69d142d9a16122b590d0befe8d84efd8ce00718ba97a060329c52b0c77a6", func := "paternoster/paternosterlaw17.MendNone", spec := "mendNone", unfollowed := true, recurses := true, named := ["paternoster/crc.half"], apart := false, laid := [("paternoster/crc.half", laid_paternoster_crc_half)], narrowed := true }
def MendNoneUptoSaid : Prop := mendNoneUptoRow.holds Tryd.pinned (OpenSpec.upto mendNoneSpec)

/-- 'paternosterlaw17.MendFirst', WHERE WHAT IT READS IS OF BULK AT MOST 1048576: true; the input reads as it did. -/
def mendFirstUptoRow : OpenClaim := { program := "ytbcijmpkmmcdeaadoor", sum := "f19c69d142d9a16122b590d0befe8d84efd8ce00718ba97a060329c52b0c77a6", func := "paternoster/paternosterlaw17.MendFirst", spec := "mendFirst", unfollowed := true, recurses := true, named := ["paternoster/crc.half"], apart := false, laid := [("paternoster/crc.half", laid_paternoster_crc_half)], narrowed := true }
def MendFirstUptoSaid : Prop := mendFirstUptoRow.holds Tryd.pinned (OpenSpec.upto mendFirstSpec)

/-- 'paternosterlaw16.JournalPuts', WHERE WHAT IT READS IS OF BULK AT MOST 1048576: true; the input reads as it did. -/
def journalPutsUptoRow : OpenClaim := { program := "ytbcijmpkmmcdeaadoor", sum := "f19c69d142d9a16122b590d0befe8d84efd8ce00718ba97a060329c52b0c77a6", func := "paternoster/paternosterlaw16.JournalPuts", spec := "journalPuts", unfollowed := true, recurses := true, named := ["paternoster/crc.half"], apart := false, laid := [("paternoster/crc.half", laid_paternoster_crc_half)], narrowed := true }
def JournalPutsUptoSaid : Prop := journalPutsUptoRow.holds Tryd.pinned (OpenSpec.upto journalPutsSpec)

/-- 'paternosterlaw16.JournalPlays', WHERE WHAT IT READS IS OF BULK AT MOST 1048576: true; the input reads as it did. -/
def journalPlaysUptoRow : OpenClaim := { program := "ytbcijmpkmmcdeaadoor", sum := "f19c69d142d9a16122b590d0befe8d84efd8ce00718ba97a060329c52b0c77a6", func := "paternoster/paternosterlaw16.JournalPlays", spec := "journalPlays", unfollowed := true, recurses := true, named := ["paternoster/crc.half"], apart := false, laid := [("paternoster/crc.half", laid_paternoster_crc_half)], narrowed := true }
def JournalPlaysUptoSaid : Prop := journalPlaysUptoRow.holds Tryd.pinned (OpenSpec.upto journalPlaysSpec)

/-- 'paternosterlaw16.JournalBack', WHERE WHAT IT READS IS OF BULK AT MOST 1048576: true; the input reads as it did. -/
def journalBackUptoRow : OpenClaim := { program := "ytbcijmpkmmcdeaadoor", sum := "f19c69d142d9a16122b590d0befe8d84efd8ce00718ba97a060329c52b0c77a6", func := "paternoster/paternosterlaw16.JournalBack", spec := "journalBack", unfollowed := true, recurses := true, named := ["paternoster/crc.half"], apart := false, laid := [("paternoster/crc.half", laid_paternoster_crc_half)], narrowed := true }
def JournalBackUptoSaid : Prop := journalBackUptoRow.holds Tryd.pinned (OpenSpec.upto journalBackSpec)

/-- 'paternosterlaw16.JournalAhead', WHERE WHAT IT READS IS OF BULK AT MOST 1048576: true; the input reads as it did. -/
def journalAheadUptoRow : OpenClaim := { program := "ytbcijmpkmmcdeaadoor", sum := "f19c69d142d9a16122b590d0befe8d84efd8ce00718ba97a060329c52b0c77a6", func := "paternoster/paternosterlaw16.JournalAhead", spec := "journalAhead", unfollowed := true, recurses := true, named := ["paternoster/crc.half"], apart := false, laid := [("paternoster/crc.half", laid_paternoster_crc_half)], narrowed := true }
def JournalAheadUptoSaid : Prop := journalAheadUptoRow.holds Tryd.pinned (OpenSpec.upto journalAheadSpec)

/-- 'paternosterlaw16.JournalTurns', WHERE WHAT IT READS IS OF BULK AT MOST 1048576: true; the input reads as it did. -/
def journalTurnsUptoRow : OpenClaim := { program := "ytbcijmpkmmcdeaadoor", sum := "f19c69d142d9a16122b590d0befe8d84efd8ce00718ba97a060329c52b0c77a6", func := "paternoster/paternosterlaw16.JournalTurns", spec := "journalTurns", unfollowed := true, recurses := true, named := ["paternoster/crc.half"], apart := false, laid := [("paternoster/crc.half", laid_paternoster_crc_half)], narrowed := true }
def JournalTurnsUptoSaid : Prop := journalTurnsUptoRow.holds Tryd.pinned (OpenSpec.upto journalTurnsSpec)

/-- 'paternosterlaw16.JournalNone', WHERE WHAT IT READS IS OF BULK AT MOST 1048576: true; the input reads as it did. -/
def journalNoneUptoRow : OpenClaim := { program := "ytbcijmpkmmcdeaadoor", sum := "f19c69d142d9a16122b590d0befe8d84efd8ce00718ba97a060329c52b0c77a6", func := "paternoster/paternosterlaw16.JournalNone", spec := "journalNone", unfollowed := true, recurses := true, named := ["paternoster/crc.half"], apart := false, laid := [("paternoster/crc.half", laid_paternoster_crc_half)], narrowed := true }
def JournalNoneUptoSaid : Prop := journalNoneUptoRow.holds Tryd.pinned (OpenSpec.upto journalNoneSpec)

/-- 'paternosterlaw17.MendSafe', WHERE WHAT IT READS IS OF BULK AT MOST 1048576: true; the input reads as it did. -/
def mendSafeUptoRow : OpenClaim := { program := "ytbcijmpkmmcdeaadoor", sum := "f19c69d142d9a16122b590d0befe8d84efd8ce00718ba97a060329c52b0c77a6", func := "paternoster/paternosterlaw17.MendSafe", spec := "mendSafe", unfollowed := true, recurses := true, named := ["paternoster/crc.half"], apart := false, laid := [("paternoster/crc.half", laid_paternoster_crc_half)], narrowed := true }
def MendSafeUptoSaid : Prop := mendSafeUptoRow.holds Tryd.pinned (OpenSpec.upto mendSafeSpec)

end Rows
end Go.Proofs.YtbcijmpkmmcdeaaDoor
