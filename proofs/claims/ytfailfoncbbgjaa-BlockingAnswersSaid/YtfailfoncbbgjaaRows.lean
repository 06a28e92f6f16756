/-
  NARROWER THAN 'FOR EVERY INPUT', by the rows' own cells (each row's printed sentence says how): BlockingAnswers: loops.
  DERIVED. THE GIVEN ROWS OF THIS SEAT. 5 by the template 'for every input the law returns true; each argument reads behind the call as it read before'; 0 by the template 'total and deterministic' (their statements: YtfailfoncbbgjaaTotals.lean).
  GIVEN WITH THE SEED: the statements are not yours to turn. If you find one false, say at which input.
  Laid BY PROGRAM, IN A SANDBOX (cutbox-rows.mjs): the forced cells as the released guide's own fill.sh prints them over the translation 99fb5d13349b20b8… (all of the seat's roots in one cut). By AI agents, Wed Nov 11 2026. No macro, syntax, notation, axiom, sorry.
-/
import Derived.Test.YtfailfoncbbgjaaChecked
import GoSem.Claim
import GoSem.ClaimJoined
import GoSem.ClaimMapViews
import Derived.JoinedTies
import Derived.KernelRfl
namespace Go.Proofs.Ytfailfoncbbgjaa
/- THE CELL 'sum', in the pinned program and in every row, IS THE sha256 OF THE DUMP (.gsa) THAT YtfailfoncbbgjaaProg.lean LOADS. Nothing in Lean hashes anything: it is a label: what it is worth is what the hold of that sum in a sandbox is worth. -/
noncomputable def Try.pinned : Pinned := { name := "ytfailfoncbbgjaa", sum := "99fb5d13349b20b8035da8b7dd473b998633cea4b861448871590c26d7375b37", checked := Try.checked }
namespace Rows
def none {H : Type} : Left H := { results := [], args := [] }

/-- 'trustquorumlaw11.BlockingMeets': WHATEVER THE INPUT: true; the input reads as it did. -/
def blockingMeetsSpec : ChangeSpec := { name := "blockingMeets", fn := fun _ => fun
  | [d] => { results := [.lit (.bool true)], args := [d] }
  | _ => none }
def blockingMeetsRow : OpenClaim := { program := "ytfailfoncbbgjaa", sum := "99fb5d13349b20b8035da8b7dd473b998633cea4b861448871590c26d7375b37", func := "trustquorum/trustquorumlaw11.BlockingMeets", spec := "blockingMeets", unfollowed := true, recurses := true, apart := false }
def BlockingMeetsSaid : Prop := blockingMeetsRow.holds Try.pinned (OpenSpec.ofChange blockingMeetsSpec)

/-- ITS FALSE NEIGHBOUR: 'it returns false'. Refute it at one input. -/
def blockingMeetsWrong : ChangeSpec := { name := "blockingMeets", fn := fun _ => fun
  | [d] => { results := [.lit (.bool false)], args := [d] }
  | _ => none }
def BlockingMeetsWrongFalsely : Prop := blockingMeetsRow.holds Try.pinned (OpenSpec.ofChange blockingMeetsWrong)

/-- 'trustquorumlaw11.BlockingGrows': WHATEVER THE INPUT: true; the input reads as it did. -/
def blockingGrowsSpec : ChangeSpec := { name := "blockingGrows", fn := fun _ => fun
  | [d] => { results := [.lit (.bool true)], args := [d] }
  | _ => none }
def blockingGrowsRow : OpenClaim := { program := "ytfailfoncbbgjaa", sum := "99fb5d13349b20b8035da8b7dd473b998633cea4b861448871590c26d7375b37", func := "trustquorum/trustquorumlaw11.BlockingGrows", spec := "blockingGrows", unfollowed := true, recurses := true, apart := false }
def BlockingGrowsSaid : Prop := blockingGrowsRow.holds Try.pinned (OpenSpec.ofChange blockingGrowsSpec)

/-- ITS FALSE NEIGHBOUR: 'it returns false'. Refute it at one input. -/
def blockingGrowsWrong : ChangeSpec := { name := "blockingGrows", fn := fun _ => fun
  | [d] => { results := [.lit (.bool false)], args := [d] }
  | _ => none }
def BlockingGrowsWrongFalsely : Prop := blockingGrowsRow.holds Try.pinned (OpenSpec.ofChange blockingGrowsWrong)

/-- 'trustquorumlaw11.BlockingRest': WHATEVER THE INPUT: true; the input reads as it did. -/
def blockingRestSpec : ChangeSpec := { name := "blockingRest", fn := fun _ => fun
  | [d] => { results := [.lit (.bool true)], args := [d] }
  | _ => none }
def blockingRestRow : OpenClaim := { program := "ytfailfoncbbgjaa", sum := "99fb5d13349b20b8035da8b7dd473b998633cea4b861448871590c26d7375b37", func := "trustquorum/trustquorumlaw11.BlockingRest", spec := "blockingRest", unfollowed := true, recurses := true, apart := false }
def BlockingRestSaid : Prop := blockingRestRow.holds Try.pinned (OpenSpec.ofChange blockingRestSpec)

/-- ITS FALSE NEIGHBOUR: 'it returns false'. Refute it at one input. -/
def blockingRestWrong : ChangeSpec := { name := "blockingRest", fn := fun _ => fun
  | [d] => { results := [.lit (.bool false)], args := [d] }
  | _ => none }
def BlockingRestWrongFalsely : Prop := blockingRestRow.holds Try.pinned (OpenSpec.ofChange blockingRestWrong)

/-- 'trustquorumlaw11.BlockingAnswers': WHATEVER THE INPUT: true; the input reads as it did. -/
def blockingAnswersSpec : ChangeSpec := { name := "blockingAnswers", fn := fun _ => fun
  | [d1, d2, d3, d4, d5] => { results := [.lit (.bool true)], args := [d1, d2, d3, d4, d5] }
  | _ => none }
def blockingAnswersRow : OpenClaim := { program := "ytfailfoncbbgjaa", sum := "99fb5d13349b20b8035da8b7dd473b998633cea4b861448871590c26d7375b37", func := "trustquorum/trustquorumlaw11.BlockingAnswers", spec := "blockingAnswers", unfollowed := true, recurses := true, loops := true, apart := false }
def BlockingAnswersSaid : Prop := blockingAnswersRow.holds Try.pinned (OpenSpec.ofChange blockingAnswersSpec)

/-- ITS FALSE NEIGHBOUR: 'it returns false'. Refute it at one input. -/
def blockingAnswersWrong : ChangeSpec := { name := "blockingAnswers", fn := fun _ => fun
  | [d1, d2, d3, d4, d5] => { results := [.lit (.bool false)], args := [d1, d2, d3, d4, d5] }
  | _ => none }
def BlockingAnswersWrongFalsely : Prop := blockingAnswersRow.holds Try.pinned (OpenSpec.ofChange blockingAnswersWrong)

/-- 'trustquorumlaw11.BlockingOrders': WHATEVER THE INPUT: true; the input reads as it did. -/
def blockingOrdersSpec : ChangeSpec := { name := "blockingOrders", fn := fun _ => fun
  | [d] => { results := [.lit (.bool true)], args := [d] }
  | _ => none }
def blockingOrdersRow : OpenClaim := { program := "ytfailfoncbbgjaa", sum := "99fb5d13349b20b8035da8b7dd473b998633cea4b861448871590c26d7375b37", func := "trustquorum/trustquorumlaw11.BlockingOrders", spec := "blockingOrders", unfollowed := true, recurses := true, apart := false }
def BlockingOrdersSaid : Prop := blockingOrdersRow.holds Try.pinned (OpenSpec.ofChange blockingOrdersSpec)

/-- ITS FALSE NEIGHBOUR: 'it returns false'. Refute it at one input. -/
def blockingOrdersWrong : ChangeSpec := { name := "blockingOrders", fn := fun _ => fun
  | [d] => { results := [.lit (.bool false)], args := [d] }
  | _ => none }
def BlockingOrdersWrongFalsely : Prop := blockingOrdersRow.holds Try.pinned (OpenSpec.ofChange blockingOrdersWrong)

/- THE SECOND FORM. 'bulk': how many values and letters a reading holds, each counted each time it is reached (what is shared counts as often as it is met; a slice's spare places count too). A statement '..UptoSaid' is the law's where the arguments, and the package variables that the reading takes, are together of bulk at most 1048576: NARROWER than '..Said'. Prove '..Said' where nothing that the law and all that it calls make is longer than what came in: it says more and counts as full. Else prove '..UptoSaid'. A law counts once. -/
mutual
def uptoBulk {H : Type} : DataW H → Nat
  | .lit (.string bytes) => bytes.length + 1
  | .lit _ => 1
  | .nil => 1
  | .ptr d => uptoBulk d + 1
  | .slice elems spare => uptoBulkAll elems + uptoBulkAll spare + 1
  | .agg parts => uptoBulkAll parts + 1
  | .iface _ d => uptoBulk d + 1
  | .map entries => uptoBulkEntries entries + 1
  | .held _ => 1
def uptoBulkAll {H : Type} : List (DataW H) → Nat
  | [] => 0
  | d :: r => uptoBulk d + uptoBulkAll r
def uptoBulkEntries {H : Type} : List (Lit × DataW H) → Nat
  | [] => 0
  | x :: r => uptoBulkEntry x + uptoBulkEntries r
def uptoBulkEntry {H : Type} : Lit × DataW H → Nat
  | (.string bytes, d) => bytes.length + uptoBulk d + 1
  | (_, d) => uptoBulk d + 1
 end
def uptoSmall : (H : Type) → List (DataW H) → Bool := fun _ ds => decide (uptoBulkAll ds ≤ 1048576)
def OpenSpec.upto (s : _root_.Go.ChangeSpec) : _root_.Go.OpenSpec := { _root_.Go.OpenSpec.ofChange s with cond := some uptoSmall }

/-- 'trustquorumlaw11.BlockingMeets', WHERE WHAT IT READS IS OF BULK AT MOST 1048576: true; the input reads as it did. -/
def blockingMeetsUptoRow : OpenClaim := { program := "ytfailfoncbbgjaa", sum := "99fb5d13349b20b8035da8b7dd473b998633cea4b861448871590c26d7375b37", func := "trustquorum/trustquorumlaw11.BlockingMeets", spec := "blockingMeets", unfollowed := true, recurses := true, apart := false, narrowed := true }
def BlockingMeetsUptoSaid : Prop := blockingMeetsUptoRow.holds Try.pinned (OpenSpec.upto blockingMeetsSpec)

/-- 'trustquorumlaw11.BlockingGrows', WHERE WHAT IT READS IS OF BULK AT MOST 1048576: true; the input reads as it did. -/
def blockingGrowsUptoRow : OpenClaim := { program := "ytfailfoncbbgjaa", sum := "99fb5d13349b20b8035da8b7dd473b998633cea4b861448871590c26d7375b37", func := "trustquorum/trustquorumlaw11.BlockingGrows", spec := "blockingGrows", unfollowed := true, recurses := true, apart := false, narrowed := true }
def BlockingGrowsUptoSaid : Prop := blockingGrowsUptoRow.holds Try.pinned (OpenSpec.upto blockingGrowsSpec)

/-- 'trustquorumlaw11.BlockingRest', WHERE WHAT IT READS IS OF BULK AT MOST 1048576: true; the input reads as it did. -/
def blockingRestUptoRow : OpenClaim := { program := "ytfailfoncbbgjaa", sum := "99fb5d13349b20b8035da8b7dd473b998633cea4b861448871590c26d7375b37", func := "trustquorum/trustquorumlaw11.BlockingRest", spec := "blockingRest", unfollowed := true, recurses := true, apart := false, narrowed := true }
def BlockingRestUptoSaid : Prop := blockingRestUptoRow.holds Try.pinned (OpenSpec.upto blockingRestSpec)

/-- 'trustquorumlaw11.BlockingAnswers', WHERE WHAT IT READS IS OF BULK AT MOST 1048576: true; the input reads as it did. -/
def blockingAnswersUptoRow : OpenClaim := { program := "ytfailfoncbbgjaa", sum := "99fb5d13349b20b8035da8b7dd473b998633cea4b861448871590c26d7375b37", func := "trustquorum/trustquorumlaw11.BlockingAnswers", spec := "blockingAnswers", unfollowed := true, recurses := true, loops := true, apart := false, narrowed := true }
def BlockingAnswersUptoSaid : Prop := blockingAnswersUptoRow.holds Try.pinned (OpenSpec.upto blockingAnswersSpec)

/-- 'trustquorumlaw11.BlockingOrders', WHERE WHAT IT READS IS OF BULK AT MOST 1048576: true; the input reads as it did. -/
def blockingOrdersUptoRow : OpenClaim := { program := "ytfailfoncbbgjaa", sum := "99fb5d13349b20b8035da8b7dd473b998633cea4b861448871590c26d7375b37", func := "trustquorum/trustquorumlaw11.BlockingOrders", spec := "blockingOrders", unfollowed := true, recurses := true, apart := false, narrowed := true }
def BlockingOrdersUptoSaid : Prop := blockingOrdersUptoRow.holds Try.pinned (OpenSpec.upto blockingOrdersSpec)

end Rows
end Go.Proofs.Ytfailfoncbbgjaa
