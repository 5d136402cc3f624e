/-
  DERIVED. GIVEN WITH THE SEED: THE CARDS: each row of YtmegcockgohkhaaDoorRows.lean that lists a variable, with what it lists TIED to the program's text (the seventh form; the later family's looks); each row that meets fmt, with fmt's text TOLD by the authors' own Lean function (tested against real Go, not proved from fmt's source: count such statements apart). THE CARD IS WHAT COUNTS. Prove the row's statement (the work); the ties are given (YtmegcockgohkhaaDoorTie.lean); close each card by the builder's one call (the guide's Derived/Test/ToyasCard.lean, 'card_holds'). Laid BY PROGRAM, IN A SANDBOX (cutbox-door.mjs). By AI agents, Wed Nov 11 2026. No macro, syntax, notation, axiom, sorry.
-/
import Derived.Test.YtmegcockgohkhaaDoorRows
import GoSem.ClaimSeven
namespace Go.Proofs.YtmegcockgohkhaaDoor
namespace Rows

/-- THE TIED CARD OF 'paternosterlaw02.CrcOf'. -/
def crcOfCard : Claim7 := { stood := { row := crcOfRow, standIns := [], harness := (true, "ac96a4dd78bc8a1eb587e64d3a9577687181ab1d1552b5c7f5ce83d7bf7c9e21"), looks := false }, kinds := [], alts := [], laidByText := true, laidKinds := [.data], laidTests := true, laidLooks := .later }
def CrcOfCardSaid : Prop := Claim7.holds Tryd.pinned (.plain (OpenSpec.ofChange crcOfSpec)) crcOfCard

/-- THE TIED CARD OF 'paternosterlaw02.CrcSeals'. -/
def crcSealsCard : Claim7 := { stood := { row := crcSealsRow, standIns := [], harness := (true, "ac96a4dd78bc8a1eb587e64d3a9577687181ab1d1552b5c7f5ce83d7bf7c9e21"), looks := false }, kinds := [], alts := [], laidByText := true, laidKinds := [.data], laidTests := true, laidLooks := .later }
def CrcSealsCardSaid : Prop := Claim7.holds Tryd.pinned (.plain (OpenSpec.ofChange crcSealsSpec)) crcSealsCard

/-- THE TIED CARD OF 'paternosterlaw02.CrcTurns'. -/
def crcTurnsCard : Claim7 := { stood := { row := crcTurnsRow, standIns := [], harness := (true, "ac96a4dd78bc8a1eb587e64d3a9577687181ab1d1552b5c7f5ce83d7bf7c9e21"), looks := false }, kinds := [], alts := [], laidByText := true, laidKinds := [.data], laidTests := true, laidLooks := .later }
def CrcTurnsCardSaid : Prop := Claim7.holds Tryd.pinned (.plain (OpenSpec.ofChange crcTurnsSpec)) crcTurnsCard

/-- THE TIED CARD OF 'paternosterlaw02.CrcXors'. -/
def crcXorsCard : Claim7 := { stood := { row := crcXorsRow, standIns := [], harness := (true, "ac96a4dd78bc8a1eb587e64d3a9577687181ab1d1552b5c7f5ce83d7bf7c9e21"), looks := false }, kinds := [], alts := [], laidByText := true, laidKinds := [.data], laidTests := true, laidLooks := .later }
def CrcXorsCardSaid : Prop := Claim7.holds Tryd.pinned (.plain (OpenSpec.ofChange crcXorsSpec)) crcXorsCard

/-- THE TIED CARD OF 'paternosterlaw02.CrcSame'. -/
def crcSameCard : Claim7 := { stood := { row := crcSameRow, standIns := [], harness := (true, "ac96a4dd78bc8a1eb587e64d3a9577687181ab1d1552b5c7f5ce83d7bf7c9e21"), looks := false }, kinds := [], alts := [], laidByText := true, laidKinds := [.data], laidTests := true, laidLooks := .later }
def CrcSameCardSaid : Prop := Claim7.holds Tryd.pinned (.plain (OpenSpec.ofChange crcSameSpec)) crcSameCard

/-- THE TIED CARD OF 'paternosterlaw02.CrcShort'. -/
def crcShortCard : Claim7 := { stood := { row := crcShortRow, standIns := [], harness := (true, "ac96a4dd78bc8a1eb587e64d3a9577687181ab1d1552b5c7f5ce83d7bf7c9e21"), looks := false }, kinds := [], alts := [], laidByText := true, laidKinds := [.data], laidTests := true, laidLooks := .later }
def CrcShortCardSaid : Prop := Claim7.holds Tryd.pinned (.plain (OpenSpec.ofChange crcShortSpec)) crcShortCard

/-- THE SECOND FORM's CARD OF 'paternosterlaw02.CrcOf'. -/
def crcOfUptoCard : Claim7 := { stood := { row := crcOfUptoRow, standIns := [], harness := (true, "ac96a4dd78bc8a1eb587e64d3a9577687181ab1d1552b5c7f5ce83d7bf7c9e21"), looks := false }, kinds := [], alts := [], laidByText := true, laidKinds := [.data], laidTests := true, laidLooks := .later }
def CrcOfUptoCardSaid : Prop := Claim7.holds Tryd.pinned (.plain (OpenSpec.upto crcOfSpec)) crcOfUptoCard

/-- THE SECOND FORM's CARD OF 'paternosterlaw02.CrcSeals'. -/
def crcSealsUptoCard : Claim7 := { stood := { row := crcSealsUptoRow, standIns := [], harness := (true, "ac96a4dd78bc8a1eb587e64d3a9577687181ab1d1552b5c7f5ce83d7bf7c9e21"), looks := false }, kinds := [], alts := [], laidByText := true, laidKinds := [.data], laidTests := true, laidLooks := .later }
def CrcSealsUptoCardSaid : Prop := Claim7.holds Tryd.pinned (.plain (OpenSpec.upto crcSealsSpec)) crcSealsUptoCard

/-- THE SECOND FORM's CARD OF 'paternosterlaw02.CrcTurns'. -/
def crcTurnsUptoCard : Claim7 := { stood := { row := crcTurnsUptoRow, standIns := [], harness := (true, "ac96a4dd78bc8a1eb587e64d3a9577687181ab1d1552b5c7f5ce83d7bf7c9e21"), looks := false }, kinds := [], alts := [], laidByText := true, laidKinds := [.data], laidTests := true, laidLooks := .later }
def CrcTurnsUptoCardSaid : Prop := Claim7.holds Tryd.pinned (.plain (OpenSpec.upto crcTurnsSpec)) crcTurnsUptoCard

/-- THE SECOND FORM's CARD OF 'paternosterlaw02.CrcXors'. -/
def crcXorsUptoCard : Claim7 := { stood := { row := crcXorsUptoRow, standIns := [], harness := (true, "ac96a4dd78bc8a1eb587e64d3a9577687181ab1d1552b5c7f5ce83d7bf7c9e21"), looks := false }, kinds := [], alts := [], laidByText := true, laidKinds := [.data], laidTests := true, laidLooks := .later }
def CrcXorsUptoCardSaid : Prop := Claim7.holds Tryd.pinned (.plain (OpenSpec.upto crcXorsSpec)) crcXorsUptoCard

/-- THE SECOND FORM's CARD OF 'paternosterlaw02.CrcSame'. -/
def crcSameUptoCard : Claim7 := { stood := { row := crcSameUptoRow, standIns := [], harness := (true, "ac96a4dd78bc8a1eb587e64d3a9577687181ab1d1552b5c7f5ce83d7bf7c9e21"), looks := false }, kinds := [], alts := [], laidByText := true, laidKinds := [.data], laidTests := true, laidLooks := .later }
def CrcSameUptoCardSaid : Prop := Claim7.holds Tryd.pinned (.plain (OpenSpec.upto crcSameSpec)) crcSameUptoCard

/-- THE SECOND FORM's CARD OF 'paternosterlaw02.CrcShort'. -/
def crcShortUptoCard : Claim7 := { stood := { row := crcShortUptoRow, standIns := [], harness := (true, "ac96a4dd78bc8a1eb587e64d3a9577687181ab1d1552b5c7f5ce83d7bf7c9e21"), looks := false }, kinds := [], alts := [], laidByText := true, laidKinds := [.data], laidTests := true, laidLooks := .later }
def CrcShortUptoCardSaid : Prop := Claim7.holds Tryd.pinned (.plain (OpenSpec.upto crcShortSpec)) crcShortUptoCard
end Rows
end Go.Proofs.YtmegcockgohkhaaDoor
