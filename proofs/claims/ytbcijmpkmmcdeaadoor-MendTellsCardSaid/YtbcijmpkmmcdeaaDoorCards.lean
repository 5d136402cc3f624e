/-
  DERIVED. GIVEN WITH THE SEED: THE CARDS: each row of YtbcijmpkmmcdeaaDoorRows.lean that lists a variable, with what it lists TIED to the program's text (the seventh form; the later family's looks); each row that meets fmt, with fmt's text TOLD by the authors' own Lean function (tested against real Go, not proved from fmt's source: count such statements apart). THE CARD IS WHAT COUNTS. Prove the row's statement (the work); the ties are given (YtbcijmpkmmcdeaaDoorTie.lean); close each card by the builder's one call (the guide's Derived/Test/ToyasCard.lean, 'card_holds'). Laid BY PROGRAM, IN A SANDBOX (cutbox-door.mjs). By AI agents, Wed Nov 11 2026. No macro, syntax, notation, axiom, sorry.
-/
import Derived.Test.YtbcijmpkmmcdeaaDoorRows
import GoSem.ClaimSeven
namespace Go.Proofs.YtbcijmpkmmcdeaaDoor
namespace Rows

/-- THE TIED CARD OF 'paternosterlaw17.MendTells'. -/
def mendTellsCard : Claim7 := { stood := { row := mendTellsRow, standIns := [], harness := (true, "fded5a95f2cb90ddeb8c0e98f18869e819c31d73c8176f1dff450dd77119bd84"), looks := false }, kinds := [], alts := [], laidByText := true, laidKinds := [.data], laidTests := true, laidLooks := .later }
def MendTellsCardSaid : Prop := Claim7.holds Tryd.pinned (.plain (OpenSpec.ofChange mendTellsSpec)) mendTellsCard

/-- THE TIED CARD OF 'paternosterlaw17.MendNone'. -/
def mendNoneCard : Claim7 := { stood := { row := mendNoneRow, standIns := [], harness := (true, "fded5a95f2cb90ddeb8c0e98f18869e819c31d73c8176f1dff450dd77119bd84"), looks := false }, kinds := [], alts := [], laidByText := true, laidKinds := [.data], laidTests := true, laidLooks := .later }
def MendNoneCardSaid : Prop := Claim7.holds Tryd.pinned (.plain (OpenSpec.ofChange mendNoneSpec)) mendNoneCard

/-- THE TIED CARD OF 'paternosterlaw17.MendFirst'. -/
def mendFirstCard : Claim7 := { stood := { row := mendFirstRow, standIns := [], harness := (true, "fded5a95f2cb90ddeb8c0e98f18869e819c31d73c8176f1dff450dd77119bd84"), looks := false }, kinds := [], alts := [], laidByText := true, laidKinds := [.data], laidTests := true, laidLooks := .later }
def MendFirstCardSaid : Prop := Claim7.holds Tryd.pinned (.plain (OpenSpec.ofChange mendFirstSpec)) mendFirstCard

/-- THE TIED CARD OF 'paternosterlaw16.JournalPuts'. -/
def journalPutsCard : Claim7 := { stood := { row := journalPutsRow, standIns := [], harness := (true, "fded5a95f2cb90ddeb8c0e98f18869e819c31d73c8176f1dff450dd77119bd84"), looks := false }, kinds := [], alts := [], laidByText := true, laidKinds := [.data], laidTests := true, laidLooks := .later }
def JournalPutsCardSaid : Prop := Claim7.holds Tryd.pinned (.plain (OpenSpec.ofChange journalPutsSpec)) journalPutsCard

/-- THE TIED CARD OF 'paternosterlaw16.JournalPlays'. -/
def journalPlaysCard : Claim7 := { stood := { row := journalPlaysRow, standIns := [], harness := (true, "fded5a95f2cb90ddeb8c0e98f18869e819c31d73c8176f1dff450dd77119bd84"), looks := false }, kinds := [], alts := [], laidByText := true, laidKinds := [.data], laidTests := true, laidLooks := .later }
def JournalPlaysCardSaid : Prop := Claim7.holds Tryd.pinned (.plain (OpenSpec.ofChange journalPlaysSpec)) journalPlaysCard

/-- THE TIED CARD OF 'paternosterlaw16.JournalBack'. -/
def journalBackCard : Claim7 := { stood := { row := journalBackRow, standIns := [], harness := (true, "fded5a95f2cb90ddeb8c0e98f18869e819c31d73c8176f1dff450dd77119bd84"), looks := false }, kinds := [], alts := [], laidByText := true, laidKinds := [.data], laidTests := true, laidLooks := .later }
def JournalBackCardSaid : Prop := Claim7.holds Tryd.pinned (.plain (OpenSpec.ofChange journalBackSpec)) journalBackCard

/-- THE TIED CARD OF 'paternosterlaw16.JournalAhead'. -/
def journalAheadCard : Claim7 := { stood := { row := journalAheadRow, standIns := [], harness := (true, "fded5a95f2cb90ddeb8c0e98f18869e819c31d73c8176f1dff450dd77119bd84"), looks := false }, kinds := [], alts := [], laidByText := true, laidKinds := [.data], laidTests := true, laidLooks := .later }
def JournalAheadCardSaid : Prop := Claim7.holds Tryd.pinned (.plain (OpenSpec.ofChange journalAheadSpec)) journalAheadCard

/-- THE TIED CARD OF 'paternosterlaw16.JournalTurns'. -/
def journalTurnsCard : Claim7 := { stood := { row := journalTurnsRow, standIns := [], harness := (true, "fded5a95f2cb90ddeb8c0e98f18869e819c31d73c8176f1dff450dd77119bd84"), looks := false }, kinds := [], alts := [], laidByText := true, laidKinds := [.data], laidTests := true, laidLooks := .later }
def JournalTurnsCardSaid : Prop := Claim7.holds Tryd.pinned (.plain (OpenSpec.ofChange journalTurnsSpec)) journalTurnsCard

/-- THE TIED CARD OF 'paternosterlaw16.JournalNone'. -/
def journalNoneCard : Claim7 := { stood := { row := journalNoneRow, standIns := [], harness := (true, "fded5a95f2cb90ddeb8c0e98f18869e819c31d73c8176f1dff450dd77119bd84"), looks := false }, kinds := [], alts := [], laidByText := true, laidKinds := [.data], laidTests := true, laidLooks := .later }
def JournalNoneCardSaid : Prop := Claim7.holds Tryd.pinned (.plain (OpenSpec.ofChange journalNoneSpec)) journalNoneCard

/-- THE TIED CARD OF 'paternosterlaw17.MendSafe'. -/
def mendSafeCard : Claim7 := { stood := { row := mendSafeRow, standIns := [], harness := (true, "fded5a95f2cb90ddeb8c0e98f18869e819c31d73c8176f1dff450dd77119bd84"), looks := false }, kinds := [], alts := [], laidByText := true, laidKinds := [.data], laidTests := true, laidLooks := .later }
def MendSafeCardSaid : Prop := Claim7.holds Tryd.pinned (.plain (OpenSpec.ofChange mendSafeSpec)) mendSafeCard

/-- THE SECOND FORM's CARD OF 'paternosterlaw17.MendTells'. -/
def mendTellsUptoCard : Claim7 := { stood := { row := mendTellsUptoRow, standIns := [], harness := (true, "fded5a95f2cb90ddeb8c0e98f18869e819c31d73c8176f1dff450dd77119bd84"), looks := false }, kinds := [], alts := [], laidByText := true, laidKinds := [.data], laidTests := true, laidLooks := .later }
def MendTellsUptoCardSaid : Prop := Claim7.holds Tryd.pinned (.plain (OpenSpec.upto mendTellsSpec)) mendTellsUptoCard

/-- THE SECOND FORM's CARD OF 'paternosterlaw17.MendNone'. -/
def mendNoneUptoCard : Claim7 := { stood := { row := mendNoneUptoRow, standIns := [], harness := (true, "fded5a95f2cb90ddeb8c0e98f18869e819c31d73c8176f1dff450dd77119bd84"), looks := false }, kinds := [], alts := [], laidByText := true, laidKinds := [.data], laidTests := true, laidLooks := .later }
def MendNoneUptoCardSaid : Prop := Claim7.holds Tryd.pinned (.plain (OpenSpec.upto mendNoneSpec)) mendNoneUptoCard

/-- THE SECOND FORM's CARD OF 'paternosterlaw17.MendFirst'. -/
def mendFirstUptoCard : Claim7 := { stood := { row := mendFirstUptoRow, standIns := [], harness := (true, "fded5a95f2cb90ddeb8c0e98f18869e819c31d73c8176f1dff450dd77119bd84"), looks := false }, kinds := [], alts := [], laidByText := true, laidKinds := [.data], laidTests := true, laidLooks := .later }
def MendFirstUptoCardSaid : Prop := Claim7.holds Tryd.pinned (.plain (OpenSpec.upto mendFirstSpec)) mendFirstUptoCard

/-- THE SECOND FORM's CARD OF 'paternosterlaw16.JournalPuts'. -/
def journalPutsUptoCard : Claim7 := { stood := { row := journalPutsUptoRow, standIns := [], harness := (true, "fded5a95f2cb90ddeb8c0e98f18869e819c31d73c8176f1dff450dd77119bd84"), looks := false }, kinds := [], alts := [], laidByText := true, laidKinds := [.data], laidTests := true, laidLooks := .later }
def JournalPutsUptoCardSaid : Prop := Claim7.holds Tryd.pinned (.plain (OpenSpec.upto journalPutsSpec)) journalPutsUptoCard

/-- THE SECOND FORM's CARD OF 'paternosterlaw16.JournalPlays'. -/
def journalPlaysUptoCard : Claim7 := { stood := { row := journalPlaysUptoRow, standIns := [], harness := (true, "fded5a95f2cb90ddeb8c0e98f18869e819c31d73c8176f1dff450dd77119bd84"), looks := false }, kinds := [], alts := [], laidByText := true, laidKinds := [.data], laidTests := true, laidLooks := .later }
def JournalPlaysUptoCardSaid : Prop := Claim7.holds Tryd.pinned (.plain (OpenSpec.upto journalPlaysSpec)) journalPlaysUptoCard

/-- THE SECOND FORM's CARD OF 'paternosterlaw16.JournalBack'. -/
def journalBackUptoCard : Claim7 := { stood := { row := journalBackUptoRow, standIns := [], harness := (true, "fded5a95f2cb90ddeb8c0e98f18869e819c31d73c8176f1dff450dd77119bd84"), looks := false }, kinds := [], alts := [], laidByText := true, laidKinds := [.data], laidTests := true, laidLooks := .later }
def JournalBackUptoCardSaid : Prop := Claim7.holds Tryd.pinned (.plain (OpenSpec.upto journalBackSpec)) journalBackUptoCard

/-- THE SECOND FORM's CARD OF 'paternosterlaw16.JournalAhead'. -/
def journalAheadUptoCard : Claim7 := { stood := { row := journalAheadUptoRow, standIns := [], harness := (true, "fded5a95f2cb90ddeb8c0e98f18869e819c31d73c8176f1dff450dd77119bd84"), looks := false }, kinds := [], alts := [], laidByText := true, laidKinds := [.data], laidTests := true, laidLooks := .later }
def JournalAheadUptoCardSaid : Prop := Claim7.holds Tryd.pinned (.plain (OpenSpec.upto journalAheadSpec)) journalAheadUptoCard

/-- THE SECOND FORM's CARD OF 'paternosterlaw16.JournalTurns'. -/
def journalTurnsUptoCard : Claim7 := { stood := { row := journalTurnsUptoRow, standIns := [], harness := (true, "fded5a95f2cb90ddeb8c0e98f18869e819c31d73c8176f1dff450dd77119bd84"), looks := false }, kinds := [], alts := [], laidByText := true, laidKinds := [.data], laidTests := true, laidLooks := .later }
def JournalTurnsUptoCardSaid : Prop := Claim7.holds Tryd.pinned (.plain (OpenSpec.upto journalTurnsSpec)) journalTurnsUptoCard

/-- THE SECOND FORM's CARD OF 'paternosterlaw16.JournalNone'. -/
def journalNoneUptoCard : Claim7 := { stood := { row := journalNoneUptoRow, standIns := [], harness := (true, "fded5a95f2cb90ddeb8c0e98f18869e819c31d73c8176f1dff450dd77119bd84"), looks := false }, kinds := [], alts := [], laidByText := true, laidKinds := [.data], laidTests := true, laidLooks := .later }
def JournalNoneUptoCardSaid : Prop := Claim7.holds Tryd.pinned (.plain (OpenSpec.upto journalNoneSpec)) journalNoneUptoCard

/-- THE SECOND FORM's CARD OF 'paternosterlaw17.MendSafe'. -/
def mendSafeUptoCard : Claim7 := { stood := { row := mendSafeUptoRow, standIns := [], harness := (true, "fded5a95f2cb90ddeb8c0e98f18869e819c31d73c8176f1dff450dd77119bd84"), looks := false }, kinds := [], alts := [], laidByText := true, laidKinds := [.data], laidTests := true, laidLooks := .later }
def MendSafeUptoCardSaid : Prop := Claim7.holds Tryd.pinned (.plain (OpenSpec.upto mendSafeSpec)) mendSafeUptoCard
end Rows
end Go.Proofs.YtbcijmpkmmcdeaaDoor
