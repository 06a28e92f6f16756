/-
  DERIVED. GIVEN WITH THE SEED: THE CARDS: each row of YtkeiaodiibageaaDoorRows.lean that lists a variable, with what it lists TIED to the program's text (the seventh form; the later family's looks); each row that meets fmt, with fmt's text TOLD by the authors' own Lean function (tested against real Go, not proved from fmt's source: count such statements apart). THE CARD IS WHAT COUNTS. Prove the row's statement (the work); the ties are given (YtkeiaodiibageaaDoorTie.lean); close each card by the builder's one call (the guide's Derived/Test/ToyasCard.lean, 'card_holds'). Laid BY PROGRAM, IN A SANDBOX (cutbox-door.mjs). By AI agents, Wed Nov 11 2026. No macro, syntax, notation, axiom, sorry.
-/
import Derived.Test.YtkeiaodiibageaaDoorRows
import GoSem.ClaimSeven
namespace Go.Proofs.YtkeiaodiibageaaDoor
namespace Rows

/-- THE TIED CARD OF 'trustquorumlaw08.RegistryExposes'. -/
def registryExposesCard : Claim7 := { stood := { row := registryExposesRow, standIns := [], harness := (true, "05315b594733fb38323195e5adbd868f947d0989c8c54a7a688f8d44292f3a49"), looks := false }, kinds := [], alts := [], laidByText := true, laidKinds := [.data, .data, .data], laidTests := true, laidLooks := .later }
def RegistryExposesCardSaid : Prop := Claim7.holds Tryd.pinned (.plain (OpenSpec.ofChange registryExposesSpec)) registryExposesCard

/-- THE SECOND FORM's CARD OF 'trustquorumlaw08.RegistryExposes'. -/
def registryExposesUptoCard : Claim7 := { stood := { row := registryExposesUptoRow, standIns := [], harness := (true, "05315b594733fb38323195e5adbd868f947d0989c8c54a7a688f8d44292f3a49"), looks := false }, kinds := [], alts := [], laidByText := true, laidKinds := [.data, .data, .data], laidTests := true, laidLooks := .later }
def RegistryExposesUptoCardSaid : Prop := Claim7.holds Tryd.pinned (.plain (OpenSpec.upto registryExposesSpec)) registryExposesUptoCard
end Rows
end Go.Proofs.YtkeiaodiibageaaDoor
