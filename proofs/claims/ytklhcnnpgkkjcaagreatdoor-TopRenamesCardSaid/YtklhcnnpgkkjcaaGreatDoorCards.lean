/-
  DERIVED. GIVEN WITH THE SEED: THE CARDS: each row of YtklhcnnpgkkjcaaGreatDoorRows.lean that lists a variable, with what it lists TIED to the program's text (the seventh form; the later family's looks); each row that meets fmt, with fmt's text TOLD by the authors' own Lean function (tested against real Go, not proved from fmt's source: count such statements apart). THE CARD IS WHAT COUNTS. Prove the row's statement (the work); the ties are given (YtklhcnnpgkkjcaaGreatDoorTie.lean); close each card by the builder's one call (the guide's Derived/Test/ToyasCard.lean, 'card_holds'). Laid BY PROGRAM, IN A SANDBOX (cutbox-door.mjs). By AI agents, Wed Nov 11 2026. No macro, syntax, notation, axiom, sorry.
-/
import Derived.Test.YtklhcnnpgkkjcaaGreatDoorRows
import GoSem.ClaimSeven
namespace Go.Proofs.YtklhcnnpgkkjcaaGreatDoor
namespace Rows

/-- THE TIED CARD OF 'trustquorumtop.TopRenames'. -/
def topRenamesCard : Claim7 := { stood := { row := topRenamesRow, standIns := [], harness := (true, "e817a5539f5f574367a0dba4f02d2f81d9ca260bd436bd5754194a198f65aabb"), looks := true }, kinds := [], alts := [], laidByText := true, laidKinds := [.data, .data, .data, .data, .sentinel, .sentinel, .pinned], laidTests := true, laidLooks := .later }
def TopRenamesCardSaid : Prop := Claim7.holds Tryz.pinned (.plain (OpenSpec.ofChange topRenamesSpec)) topRenamesCard

/-- THE SECOND FORM's CARD OF 'trustquorumtop.TopRenames'. -/
def topRenamesUptoCard : Claim7 := { stood := { row := topRenamesUptoRow, standIns := [], harness := (true, "e817a5539f5f574367a0dba4f02d2f81d9ca260bd436bd5754194a198f65aabb"), looks := true }, kinds := [], alts := [], laidByText := true, laidKinds := [.data, .data, .data, .data, .sentinel, .sentinel, .pinned], laidTests := true, laidLooks := .later }
def TopRenamesUptoCardSaid : Prop := Claim7.holds Tryz.pinned (.plain (OpenSpec.upto topRenamesSpec)) topRenamesUptoCard
end Rows
end Go.Proofs.YtklhcnnpgkkjcaaGreatDoor
