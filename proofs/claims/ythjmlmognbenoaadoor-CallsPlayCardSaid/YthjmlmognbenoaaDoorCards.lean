/-
  DERIVED. GIVEN WITH THE SEED: THE CARDS: each row of YthjmlmognbenoaaDoorRows.lean that lists a variable, with what it lists TIED to the program's text (the seventh form; the later family's looks); each row that meets fmt, with fmt's text TOLD by the authors' own Lean function (tested against real Go, not proved from fmt's source: count such statements apart). THE CARD IS WHAT COUNTS. Prove the row's statement (the work); the ties are given (YthjmlmognbenoaaDoorTie.lean); close each card by the builder's one call (the guide's Derived/Test/ToyasCard.lean, 'card_holds'). Laid BY PROGRAM, IN A SANDBOX (cutbox-door.mjs). By AI agents, Wed Nov 11 2026. No macro, syntax, notation, axiom, sorry.
-/
import Derived.Test.YthjmlmognbenoaaDoorRows
import GoSem.ClaimSeven
namespace Go.Proofs.YthjmlmognbenoaaDoor
namespace Rows

/-- THE TIED CARD OF 'paternosterlaw22.CallsPlay'. -/
def callsPlayCard : Claim7 := { stood := { row := callsPlayRow, standIns := [], harness := (true, "79e12873aea31e9ab8a00f02d0cdfb1443ef8f0f8da65b0b8abef0b5aeba4f14"), looks := false }, kinds := [], alts := [], laidByText := true, laidKinds := [.data], laidTests := true, laidLooks := .later }
def CallsPlayCardSaid : Prop := Claim7.holds Tryd.pinned (.plain (OpenSpec.ofChange callsPlaySpec)) callsPlayCard

/-- THE TIED CARD OF 'paternosterlaw22.CallsWait'. -/
def callsWaitCard : Claim7 := { stood := { row := callsWaitRow, standIns := [], harness := (true, "79e12873aea31e9ab8a00f02d0cdfb1443ef8f0f8da65b0b8abef0b5aeba4f14"), looks := false }, kinds := [], alts := [], laidByText := true, laidKinds := [.data], laidTests := true, laidLooks := .later }
def CallsWaitCardSaid : Prop := Claim7.holds Tryd.pinned (.plain (OpenSpec.ofChange callsWaitSpec)) callsWaitCard

/-- THE TIED CARD OF 'paternosterlaw22.CallsApart'. -/
def callsApartCard : Claim7 := { stood := { row := callsApartRow, standIns := [], harness := (true, "79e12873aea31e9ab8a00f02d0cdfb1443ef8f0f8da65b0b8abef0b5aeba4f14"), looks := false }, kinds := [], alts := [], laidByText := true, laidKinds := [.data], laidTests := true, laidLooks := .later }
def CallsApartCardSaid : Prop := Claim7.holds Tryd.pinned (.plain (OpenSpec.ofChange callsApartSpec)) callsApartCard

/-- THE TIED CARD OF 'paternosterlaw22.CallsAll'. -/
def callsAllCard : Claim7 := { stood := { row := callsAllRow, standIns := [], harness := (true, "79e12873aea31e9ab8a00f02d0cdfb1443ef8f0f8da65b0b8abef0b5aeba4f14"), looks := false }, kinds := [], alts := [], laidByText := true, laidKinds := [.data], laidTests := true, laidLooks := .later }
def CallsAllCardSaid : Prop := Claim7.holds Tryd.pinned (.plain (OpenSpec.ofChange callsAllSpec)) callsAllCard

/-- THE TIED CARD OF 'paternosterlaw22.CallsNone'. -/
def callsNoneCard : Claim7 := { stood := { row := callsNoneRow, standIns := [], harness := (true, "79e12873aea31e9ab8a00f02d0cdfb1443ef8f0f8da65b0b8abef0b5aeba4f14"), looks := false }, kinds := [], alts := [], laidByText := true, laidKinds := [.data], laidTests := true, laidLooks := .later }
def CallsNoneCardSaid : Prop := Claim7.holds Tryd.pinned (.plain (OpenSpec.ofChange callsNoneSpec)) callsNoneCard

/-- THE SECOND FORM's CARD OF 'paternosterlaw22.CallsPlay'. -/
def callsPlayUptoCard : Claim7 := { stood := { row := callsPlayUptoRow, standIns := [], harness := (true, "79e12873aea31e9ab8a00f02d0cdfb1443ef8f0f8da65b0b8abef0b5aeba4f14"), looks := false }, kinds := [], alts := [], laidByText := true, laidKinds := [.data], laidTests := true, laidLooks := .later }
def CallsPlayUptoCardSaid : Prop := Claim7.holds Tryd.pinned (.plain (OpenSpec.upto callsPlaySpec)) callsPlayUptoCard

/-- THE SECOND FORM's CARD OF 'paternosterlaw22.CallsWait'. -/
def callsWaitUptoCard : Claim7 := { stood := { row := callsWaitUptoRow, standIns := [], harness := (true, "79e12873aea31e9ab8a00f02d0cdfb1443ef8f0f8da65b0b8abef0b5aeba4f14"), looks := false }, kinds := [], alts := [], laidByText := true, laidKinds := [.data], laidTests := true, laidLooks := .later }
def CallsWaitUptoCardSaid : Prop := Claim7.holds Tryd.pinned (.plain (OpenSpec.upto callsWaitSpec)) callsWaitUptoCard

/-- THE SECOND FORM's CARD OF 'paternosterlaw22.CallsApart'. -/
def callsApartUptoCard : Claim7 := { stood := { row := callsApartUptoRow, standIns := [], harness := (true, "79e12873aea31e9ab8a00f02d0cdfb1443ef8f0f8da65b0b8abef0b5aeba4f14"), looks := false }, kinds := [], alts := [], laidByText := true, laidKinds := [.data], laidTests := true, laidLooks := .later }
def CallsApartUptoCardSaid : Prop := Claim7.holds Tryd.pinned (.plain (OpenSpec.upto callsApartSpec)) callsApartUptoCard

/-- THE SECOND FORM's CARD OF 'paternosterlaw22.CallsAll'. -/
def callsAllUptoCard : Claim7 := { stood := { row := callsAllUptoRow, standIns := [], harness := (true, "79e12873aea31e9ab8a00f02d0cdfb1443ef8f0f8da65b0b8abef0b5aeba4f14"), looks := false }, kinds := [], alts := [], laidByText := true, laidKinds := [.data], laidTests := true, laidLooks := .later }
def CallsAllUptoCardSaid : Prop := Claim7.holds Tryd.pinned (.plain (OpenSpec.upto callsAllSpec)) callsAllUptoCard

/-- THE SECOND FORM's CARD OF 'paternosterlaw22.CallsNone'. -/
def callsNoneUptoCard : Claim7 := { stood := { row := callsNoneUptoRow, standIns := [], harness := (true, "79e12873aea31e9ab8a00f02d0cdfb1443ef8f0f8da65b0b8abef0b5aeba4f14"), looks := false }, kinds := [], alts := [], laidByText := true, laidKinds := [.data], laidTests := true, laidLooks := .later }
def CallsNoneUptoCardSaid : Prop := Claim7.holds Tryd.pinned (.plain (OpenSpec.upto callsNoneSpec)) callsNoneUptoCard
end Rows
end Go.Proofs.YthjmlmognbenoaaDoor
