/-
  DERIVED. GIVEN WITH THE SEED: THE CARDS: each row of YtkeiaodiibageaaGreatDoorRows.lean that lists a variable, with what it lists TIED to the program's text (the seventh form; the later family's looks); each row that meets fmt, with fmt's text TOLD by the authors' own Lean function (tested against real Go, not proved from fmt's source: count such statements apart). THE CARD IS WHAT COUNTS. Prove the row's statement (the work); the ties are given (YtkeiaodiibageaaGreatDoorTie.lean); close each card by the builder's one call (the guide's Derived/Test/ToyasCard.lean, 'card_holds'). Laid BY PROGRAM, IN A SANDBOX (cutbox-door.mjs). By AI agents, Wed Nov 11 2026. No macro, syntax, notation, axiom, sorry.
-/
import Derived.Test.YtkeiaodiibageaaGreatDoorRows
import GoSem.ClaimSeven
namespace Go.Proofs.YtkeiaodiibageaaGreatDoor
namespace Rows

/-- THE TIED CARD OF 'trustquorumlaw08.RegistryMerges'. -/
def registryMergesCard : Claim7 := { stood := { row := registryMergesRow, standIns := [], harness := (true, "42e1df54c2667667eda07410df70edc77dddfb214b7ad47ed81141ddf18eb5cd"), looks := false }, kinds := [], alts := [], laidByText := true, laidKinds := [.data, .data, .data], laidTests := true, laidLooks := .later }
def RegistryMergesCardSaid : Prop := Claim7.holds Tryz.pinned (.plain (OpenSpec.ofChange registryMergesSpec)) registryMergesCard

/-- THE TIED CARD OF 'trustquorumlaw08.RegistryArrives'. -/
def registryArrivesCard : Claim7 := { stood := { row := registryArrivesRow, standIns := [], harness := (true, "42e1df54c2667667eda07410df70edc77dddfb214b7ad47ed81141ddf18eb5cd"), looks := false }, kinds := [], alts := [], laidByText := true, laidKinds := [.data, .data, .data], laidTests := true, laidLooks := .later }
def RegistryArrivesCardSaid : Prop := Claim7.holds Tryz.pinned (.plain (OpenSpec.ofChange registryArrivesSpec)) registryArrivesCard

/-- THE TIED CARD OF 'trustquorumlaw08.RegistryDifference'. -/
def registryDifferenceCard : Claim7 := { stood := { row := registryDifferenceRow, standIns := [], harness := (true, "42e1df54c2667667eda07410df70edc77dddfb214b7ad47ed81141ddf18eb5cd"), looks := false }, kinds := [], alts := [], laidByText := true, laidKinds := [.data, .data, .data], laidTests := true, laidLooks := .later }
def RegistryDifferenceCardSaid : Prop := Claim7.holds Tryz.pinned (.plain (OpenSpec.ofChange registryDifferenceSpec)) registryDifferenceCard

/-- THE TIED CARD OF 'trustquorumlaw08.RegistryLowHigh'. -/
def registryLowHighCard : Claim7 := { stood := { row := registryLowHighRow, standIns := [], harness := (true, "42e1df54c2667667eda07410df70edc77dddfb214b7ad47ed81141ddf18eb5cd"), looks := false }, kinds := [], alts := [], laidByText := true, laidKinds := [.data, .data, .data], laidTests := true, laidLooks := .later }
def RegistryLowHighCardSaid : Prop := Claim7.holds Tryz.pinned (.plain (OpenSpec.ofChange registryLowHighSpec)) registryLowHighCard

/-- THE SECOND FORM's CARD OF 'trustquorumlaw08.RegistryMerges'. -/
def registryMergesUptoCard : Claim7 := { stood := { row := registryMergesUptoRow, standIns := [], harness := (true, "42e1df54c2667667eda07410df70edc77dddfb214b7ad47ed81141ddf18eb5cd"), looks := false }, kinds := [], alts := [], laidByText := true, laidKinds := [.data, .data, .data], laidTests := true, laidLooks := .later }
def RegistryMergesUptoCardSaid : Prop := Claim7.holds Tryz.pinned (.plain (OpenSpec.upto registryMergesSpec)) registryMergesUptoCard

/-- THE SECOND FORM's CARD OF 'trustquorumlaw08.RegistryArrives'. -/
def registryArrivesUptoCard : Claim7 := { stood := { row := registryArrivesUptoRow, standIns := [], harness := (true, "42e1df54c2667667eda07410df70edc77dddfb214b7ad47ed81141ddf18eb5cd"), looks := false }, kinds := [], alts := [], laidByText := true, laidKinds := [.data, .data, .data], laidTests := true, laidLooks := .later }
def RegistryArrivesUptoCardSaid : Prop := Claim7.holds Tryz.pinned (.plain (OpenSpec.upto registryArrivesSpec)) registryArrivesUptoCard

/-- THE SECOND FORM's CARD OF 'trustquorumlaw08.RegistryDifference'. -/
def registryDifferenceUptoCard : Claim7 := { stood := { row := registryDifferenceUptoRow, standIns := [], harness := (true, "42e1df54c2667667eda07410df70edc77dddfb214b7ad47ed81141ddf18eb5cd"), looks := false }, kinds := [], alts := [], laidByText := true, laidKinds := [.data, .data, .data], laidTests := true, laidLooks := .later }
def RegistryDifferenceUptoCardSaid : Prop := Claim7.holds Tryz.pinned (.plain (OpenSpec.upto registryDifferenceSpec)) registryDifferenceUptoCard

/-- THE SECOND FORM's CARD OF 'trustquorumlaw08.RegistryLowHigh'. -/
def registryLowHighUptoCard : Claim7 := { stood := { row := registryLowHighUptoRow, standIns := [], harness := (true, "42e1df54c2667667eda07410df70edc77dddfb214b7ad47ed81141ddf18eb5cd"), looks := false }, kinds := [], alts := [], laidByText := true, laidKinds := [.data, .data, .data], laidTests := true, laidLooks := .later }
def RegistryLowHighUptoCardSaid : Prop := Claim7.holds Tryz.pinned (.plain (OpenSpec.upto registryLowHighSpec)) registryLowHighUptoCard
end Rows
end Go.Proofs.YtkeiaodiibageaaGreatDoor
