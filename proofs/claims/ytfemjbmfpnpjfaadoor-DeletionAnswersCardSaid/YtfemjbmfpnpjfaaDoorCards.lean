/-
  DERIVED. GIVEN WITH THE SEED: THE CARDS: each row of YtfemjbmfpnpjfaaDoorRows.lean that lists a variable, with what it lists TIED to the program's text (the seventh form; the later family's looks); each row that meets fmt, with fmt's text TOLD by the authors' own Lean function (tested against real Go, not proved from fmt's source: count such statements apart). THE CARD IS WHAT COUNTS. Prove the row's statement (the work); the ties are given (YtfemjbmfpnpjfaaDoorTie.lean); close each card by the builder's one call (the guide's Derived/Test/ToyasCard.lean, 'card_holds'). Laid BY PROGRAM, IN A SANDBOX (cutbox-door.mjs). By AI agents, Wed Nov 11 2026. No macro, syntax, notation, axiom, sorry.
-/
import Derived.Test.YtfemjbmfpnpjfaaDoorRows
import GoSem.ClaimSeven
namespace Go.Proofs.YtfemjbmfpnpjfaaDoor
namespace Rows

/-- THE TIED CARD OF 'trustquorumlaw13.DeletionMeans'. -/
def deletionMeansCard : Claim7 := { stood := { row := deletionMeansRow, standIns := [], harness := (true, "77292c631dd2be0f97a4f4d7a7aab88ee2388fec05c5186736c4b9bafa9316e0"), looks := false }, kinds := [], alts := [], laidByText := true, laidKinds := [.data, .data, .data], laidTests := true, laidLooks := .later }
def DeletionMeansCardSaid : Prop := Claim7.holds Tryd.pinned (.plain (OpenSpec.ofChange deletionMeansSpec)) deletionMeansCard

/-- THE TIED CARD OF 'trustquorumlaw13.DeletionGrows'. -/
def deletionGrowsCard : Claim7 := { stood := { row := deletionGrowsRow, standIns := [], harness := (true, "77292c631dd2be0f97a4f4d7a7aab88ee2388fec05c5186736c4b9bafa9316e0"), looks := false }, kinds := [], alts := [], laidByText := true, laidKinds := [.data, .data, .data], laidTests := true, laidLooks := .later }
def DeletionGrowsCardSaid : Prop := Claim7.holds Tryd.pinned (.plain (OpenSpec.ofChange deletionGrowsSpec)) deletionGrowsCard

/-- THE TIED CARD OF 'trustquorumlaw13.DeletionAnswers'. -/
def deletionAnswersCard : Claim7 := { stood := { row := deletionAnswersRow, standIns := [], harness := (true, "77292c631dd2be0f97a4f4d7a7aab88ee2388fec05c5186736c4b9bafa9316e0"), looks := false }, kinds := [], alts := [], laidByText := true, laidKinds := [.data, .data, .data], laidTests := true, laidLooks := .later }
def DeletionAnswersCardSaid : Prop := Claim7.holds Tryd.pinned (.plain (OpenSpec.ofChange deletionAnswersSpec)) deletionAnswersCard

/-- THE TIED CARD OF 'trustquorumlaw13.DeletionTwice'. -/
def deletionTwiceCard : Claim7 := { stood := { row := deletionTwiceRow, standIns := [], harness := (true, "77292c631dd2be0f97a4f4d7a7aab88ee2388fec05c5186736c4b9bafa9316e0"), looks := false }, kinds := [], alts := [], laidByText := true, laidKinds := [.data, .data, .data], laidTests := true, laidLooks := .later }
def DeletionTwiceCardSaid : Prop := Claim7.holds Tryd.pinned (.plain (OpenSpec.ofChange deletionTwiceSpec)) deletionTwiceCard

/-- THE TIED CARD OF 'trustquorumlaw13.DeletionQuorums'. -/
def deletionQuorumsCard : Claim7 := { stood := { row := deletionQuorumsRow, standIns := [], harness := (true, "77292c631dd2be0f97a4f4d7a7aab88ee2388fec05c5186736c4b9bafa9316e0"), looks := false }, kinds := [], alts := [], laidByText := true, laidKinds := [.data, .data, .data], laidTests := true, laidLooks := .later }
def DeletionQuorumsCardSaid : Prop := Claim7.holds Tryd.pinned (.plain (OpenSpec.ofChange deletionQuorumsSpec)) deletionQuorumsCard

/-- THE SECOND FORM's CARD OF 'trustquorumlaw13.DeletionMeans'. -/
def deletionMeansUptoCard : Claim7 := { stood := { row := deletionMeansUptoRow, standIns := [], harness := (true, "77292c631dd2be0f97a4f4d7a7aab88ee2388fec05c5186736c4b9bafa9316e0"), looks := false }, kinds := [], alts := [], laidByText := true, laidKinds := [.data, .data, .data], laidTests := true, laidLooks := .later }
def DeletionMeansUptoCardSaid : Prop := Claim7.holds Tryd.pinned (.plain (OpenSpec.upto deletionMeansSpec)) deletionMeansUptoCard

/-- THE SECOND FORM's CARD OF 'trustquorumlaw13.DeletionGrows'. -/
def deletionGrowsUptoCard : Claim7 := { stood := { row := deletionGrowsUptoRow, standIns := [], harness := (true, "77292c631dd2be0f97a4f4d7a7aab88ee2388fec05c5186736c4b9bafa9316e0"), looks := false }, kinds := [], alts := [], laidByText := true, laidKinds := [.data, .data, .data], laidTests := true, laidLooks := .later }
def DeletionGrowsUptoCardSaid : Prop := Claim7.holds Tryd.pinned (.plain (OpenSpec.upto deletionGrowsSpec)) deletionGrowsUptoCard

/-- THE SECOND FORM's CARD OF 'trustquorumlaw13.DeletionAnswers'. -/
def deletionAnswersUptoCard : Claim7 := { stood := { row := deletionAnswersUptoRow, standIns := [], harness := (true, "77292c631dd2be0f97a4f4d7a7aab88ee2388fec05c5186736c4b9bafa9316e0"), looks := false }, kinds := [], alts := [], laidByText := true, laidKinds := [.data, .data, .data], laidTests := true, laidLooks := .later }
def DeletionAnswersUptoCardSaid : Prop := Claim7.holds Tryd.pinned (.plain (OpenSpec.upto deletionAnswersSpec)) deletionAnswersUptoCard

/-- THE SECOND FORM's CARD OF 'trustquorumlaw13.DeletionTwice'. -/
def deletionTwiceUptoCard : Claim7 := { stood := { row := deletionTwiceUptoRow, standIns := [], harness := (true, "77292c631dd2be0f97a4f4d7a7aab88ee2388fec05c5186736c4b9bafa9316e0"), looks := false }, kinds := [], alts := [], laidByText := true, laidKinds := [.data, .data, .data], laidTests := true, laidLooks := .later }
def DeletionTwiceUptoCardSaid : Prop := Claim7.holds Tryd.pinned (.plain (OpenSpec.upto deletionTwiceSpec)) deletionTwiceUptoCard

/-- THE SECOND FORM's CARD OF 'trustquorumlaw13.DeletionQuorums'. -/
def deletionQuorumsUptoCard : Claim7 := { stood := { row := deletionQuorumsUptoRow, standIns := [], harness := (true, "77292c631dd2be0f97a4f4d7a7aab88ee2388fec05c5186736c4b9bafa9316e0"), looks := false }, kinds := [], alts := [], laidByText := true, laidKinds := [.data, .data, .data], laidTests := true, laidLooks := .later }
def DeletionQuorumsUptoCardSaid : Prop := Claim7.holds Tryd.pinned (.plain (OpenSpec.upto deletionQuorumsSpec)) deletionQuorumsUptoCard
end Rows
end Go.Proofs.YtfemjbmfpnpjfaaDoor
