/-
  DERIVED. GIVEN WITH THE SEED: THE CARDS: each row of YthpfhglncbkinaaDoorRows.lean that lists a variable, with what it lists TIED to the program's text (the seventh form; the later family's looks); each row that meets fmt, with fmt's text TOLD by the authors' own Lean function (tested against real Go, not proved from fmt's source: count such statements apart). THE CARD IS WHAT COUNTS. Prove the row's statement (the work); the ties are given (YthpfhglncbkinaaDoorTie.lean); close each card by the builder's one call (the guide's Derived/Test/ToyasCard.lean, 'card_holds'). Laid BY PROGRAM, IN A SANDBOX (cutbox-door.mjs). By AI agents, Wed Nov 11 2026. No macro, syntax, notation, axiom, sorry.
-/
import Derived.Test.YthpfhglncbkinaaDoorRows
import GoSem.ClaimSeven
namespace Go.Proofs.YthpfhglncbkinaaDoor
namespace Rows

/-- THE TIED CARD OF 'paternosterlaw25.WatchTells'. -/
def watchTellsCard : Claim7 := { stood := { row := watchTellsRow, standIns := [], harness := (true, "98b27feb22d5e0da132ac31c22f5128da8e0c8980fc32a8958015188b67cfb27"), looks := false }, kinds := [], alts := [], laidByText := true, laidKinds := [.data], laidTests := true, laidLooks := .later }
def WatchTellsCardSaid : Prop := Claim7.holds Tryd.pinned (.plain (OpenSpec.ofChange watchTellsSpec)) watchTellsCard

/-- THE TIED CARD OF 'paternosterlaw25.WatchAlong'. -/
def watchAlongCard : Claim7 := { stood := { row := watchAlongRow, standIns := [], harness := (true, "98b27feb22d5e0da132ac31c22f5128da8e0c8980fc32a8958015188b67cfb27"), looks := false }, kinds := [], alts := [], laidByText := true, laidKinds := [.data], laidTests := true, laidLooks := .later }
def WatchAlongCardSaid : Prop := Claim7.holds Tryd.pinned (.plain (OpenSpec.ofChange watchAlongSpec)) watchAlongCard

/-- THE TIED CARD OF 'paternosterlaw25.WatchLater'. -/
def watchLaterCard : Claim7 := { stood := { row := watchLaterRow, standIns := [], harness := (true, "98b27feb22d5e0da132ac31c22f5128da8e0c8980fc32a8958015188b67cfb27"), looks := false }, kinds := [], alts := [], laidByText := true, laidKinds := [.data], laidTests := true, laidLooks := .later }
def WatchLaterCardSaid : Prop := Claim7.holds Tryd.pinned (.plain (OpenSpec.ofChange watchLaterSpec)) watchLaterCard

/-- THE SECOND FORM's CARD OF 'paternosterlaw25.WatchTells'. -/
def watchTellsUptoCard : Claim7 := { stood := { row := watchTellsUptoRow, standIns := [], harness := (true, "98b27feb22d5e0da132ac31c22f5128da8e0c8980fc32a8958015188b67cfb27"), looks := false }, kinds := [], alts := [], laidByText := true, laidKinds := [.data], laidTests := true, laidLooks := .later }
def WatchTellsUptoCardSaid : Prop := Claim7.holds Tryd.pinned (.plain (OpenSpec.upto watchTellsSpec)) watchTellsUptoCard

/-- THE SECOND FORM's CARD OF 'paternosterlaw25.WatchAlong'. -/
def watchAlongUptoCard : Claim7 := { stood := { row := watchAlongUptoRow, standIns := [], harness := (true, "98b27feb22d5e0da132ac31c22f5128da8e0c8980fc32a8958015188b67cfb27"), looks := false }, kinds := [], alts := [], laidByText := true, laidKinds := [.data], laidTests := true, laidLooks := .later }
def WatchAlongUptoCardSaid : Prop := Claim7.holds Tryd.pinned (.plain (OpenSpec.upto watchAlongSpec)) watchAlongUptoCard

/-- THE SECOND FORM's CARD OF 'paternosterlaw25.WatchLater'. -/
def watchLaterUptoCard : Claim7 := { stood := { row := watchLaterUptoRow, standIns := [], harness := (true, "98b27feb22d5e0da132ac31c22f5128da8e0c8980fc32a8958015188b67cfb27"), looks := false }, kinds := [], alts := [], laidByText := true, laidKinds := [.data], laidTests := true, laidLooks := .later }
def WatchLaterUptoCardSaid : Prop := Claim7.holds Tryd.pinned (.plain (OpenSpec.upto watchLaterSpec)) watchLaterUptoCard
end Rows
end Go.Proofs.YthpfhglncbkinaaDoor
