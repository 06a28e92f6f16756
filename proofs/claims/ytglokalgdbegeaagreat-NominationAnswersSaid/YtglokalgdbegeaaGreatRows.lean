/-
  NARROWER THAN 'FOR EVERY INPUT', by the rows' own cells (each row's printed sentence says how): NominationAnswers: loops.
  DERIVED. THE GIVEN ROWS OF THIS SEAT. 5 by the template 'for every input the law returns true; each argument reads behind the call as it read before'; 0 by the template 'total and deterministic' (their statements: YtglokalgdbegeaaGreatTotals.lean).
  GIVEN WITH THE SEED: the statements are not yours to turn. If you find one false, say at which input.
  Laid BY PROGRAM, IN A SANDBOX (cutbox-rows.mjs): the forced cells as the released guide's own fill.sh prints them over the translation 478cf87ec3068670… (all of the seat's roots in one cut). By AI agents, Wed Nov 11 2026. No macro, syntax, notation, axiom, sorry.
-/
import Derived.Test.YtglokalgdbegeaaGreatChecked
import GoSem.Claim
import GoSem.ClaimJoined
import GoSem.ClaimMapViews
import Derived.JoinedTies
import Derived.KernelRfl
namespace Go.Proofs.YtglokalgdbegeaaGreat
/- THE CELL 'sum', in the pinned program and in every row, IS THE sha256 OF THE DUMP (.gsa) THAT YtglokalgdbegeaaGreatProg.lean LOADS. Nothing in Lean hashes anything: it is a label: what it is worth is what the hold of that sum in a sandbox is worth. -/
noncomputable def Tryz.pinned : Pinned := { name := "ytglokalgdbegeaagreat", sum := "478cf87ec306867049b5a3bab89dbedbb55e7237ab9d9f14239c1a0d98388e75", checked := Tryz.checked }
namespace Rows
def none {H : Type} : Left H := { results := [], args := [] }

/-- 'trustquorumlaw22.NominationAll': WHATEVER THE INPUT: true; the input reads as it did. -/
def nominationAllSpec : ChangeSpec := { name := "nominationAll", fn := fun _ => fun
  | [d] => { results := [.lit (.bool true)], args := [d] }
  | _ => none }
def nominationAllRow : OpenClaim := { program := "ytglokalgdbegeaagreat", sum := "478cf87ec306867049b5a3bab89dbedbb55e7237ab9d9f14239c1a0d98388e75", func := "trustquorum/trustquorumlaw22.NominationAll", spec := "nominationAll", inPlace := ["slices.overlaps[string]", "slices.overlaps[trustquorum/api.Nomination]"], unfollowed := true, recurses := true, apart := false }
def NominationAllSaid : Prop := nominationAllRow.holds Tryz.pinned (OpenSpec.ofChange nominationAllSpec)

/-- ITS FALSE NEIGHBOUR: 'it returns false'. Refute it at one input. -/
def nominationAllWrong : ChangeSpec := { name := "nominationAll", fn := fun _ => fun
  | [d] => { results := [.lit (.bool false)], args := [d] }
  | _ => none }
def NominationAllWrongFalsely : Prop := nominationAllRow.holds Tryz.pinned (OpenSpec.ofChange nominationAllWrong)

/-- 'trustquorumlaw22.NominationAgrees': WHATEVER THE INPUT: true; the input reads as it did. -/
def nominationAgreesSpec : ChangeSpec := { name := "nominationAgrees", fn := fun _ => fun
  | [d] => { results := [.lit (.bool true)], args := [d] }
  | _ => none }
def nominationAgreesRow : OpenClaim := { program := "ytglokalgdbegeaagreat", sum := "478cf87ec306867049b5a3bab89dbedbb55e7237ab9d9f14239c1a0d98388e75", func := "trustquorum/trustquorumlaw22.NominationAgrees", spec := "nominationAgrees", inPlace := ["slices.overlaps[string]", "slices.overlaps[trustquorum/api.Nomination]"], unfollowed := true, recurses := true, apart := false }
def NominationAgreesSaid : Prop := nominationAgreesRow.holds Tryz.pinned (OpenSpec.ofChange nominationAgreesSpec)

/-- ITS FALSE NEIGHBOUR: 'it returns false'. Refute it at one input. -/
def nominationAgreesWrong : ChangeSpec := { name := "nominationAgrees", fn := fun _ => fun
  | [d] => { results := [.lit (.bool false)], args := [d] }
  | _ => none }
def NominationAgreesWrongFalsely : Prop := nominationAgreesRow.holds Tryz.pinned (OpenSpec.ofChange nominationAgreesWrong)

/-- 'trustquorumlaw22.NominationKeeps': WHATEVER THE INPUT: true; the input reads as it did. -/
def nominationKeepsSpec : ChangeSpec := { name := "nominationKeeps", fn := fun _ => fun
  | [d] => { results := [.lit (.bool true)], args := [d] }
  | _ => none }
def nominationKeepsRow : OpenClaim := { program := "ytglokalgdbegeaagreat", sum := "478cf87ec306867049b5a3bab89dbedbb55e7237ab9d9f14239c1a0d98388e75", func := "trustquorum/trustquorumlaw22.NominationKeeps", spec := "nominationKeeps", inPlace := ["slices.overlaps[string]", "slices.overlaps[trustquorum/api.Nomination]"], unfollowed := true, recurses := true, apart := false }
def NominationKeepsSaid : Prop := nominationKeepsRow.holds Tryz.pinned (OpenSpec.ofChange nominationKeepsSpec)

/-- ITS FALSE NEIGHBOUR: 'it returns false'. Refute it at one input. -/
def nominationKeepsWrong : ChangeSpec := { name := "nominationKeeps", fn := fun _ => fun
  | [d] => { results := [.lit (.bool false)], args := [d] }
  | _ => none }
def NominationKeepsWrongFalsely : Prop := nominationKeepsRow.holds Tryz.pinned (OpenSpec.ofChange nominationKeepsWrong)

/-- 'trustquorumlaw22.NominationFollows': WHATEVER THE INPUT: true; the input reads as it did. -/
def nominationFollowsSpec : ChangeSpec := { name := "nominationFollows", fn := fun _ => fun
  | [d] => { results := [.lit (.bool true)], args := [d] }
  | _ => none }
def nominationFollowsRow : OpenClaim := { program := "ytglokalgdbegeaagreat", sum := "478cf87ec306867049b5a3bab89dbedbb55e7237ab9d9f14239c1a0d98388e75", func := "trustquorum/trustquorumlaw22.NominationFollows", spec := "nominationFollows", inPlace := ["slices.overlaps[string]", "slices.overlaps[trustquorum/api.Nomination]"], unfollowed := true, recurses := true, apart := false }
def NominationFollowsSaid : Prop := nominationFollowsRow.holds Tryz.pinned (OpenSpec.ofChange nominationFollowsSpec)

/-- ITS FALSE NEIGHBOUR: 'it returns false'. Refute it at one input. -/
def nominationFollowsWrong : ChangeSpec := { name := "nominationFollows", fn := fun _ => fun
  | [d] => { results := [.lit (.bool false)], args := [d] }
  | _ => none }
def NominationFollowsWrongFalsely : Prop := nominationFollowsRow.holds Tryz.pinned (OpenSpec.ofChange nominationFollowsWrong)

/-- 'trustquorumlaw22.NominationAnswers': WHATEVER THE INPUT: true; the input reads as it did. -/
def nominationAnswersSpec : ChangeSpec := { name := "nominationAnswers", fn := fun _ => fun
  | [d1, d2, d3, d4, d5, d6, d7, d8, d9] => { results := [.lit (.bool true)], args := [d1, d2, d3, d4, d5, d6, d7, d8, d9] }
  | _ => none }
def nominationAnswersRow : OpenClaim := { program := "ytglokalgdbegeaagreat", sum := "478cf87ec306867049b5a3bab89dbedbb55e7237ab9d9f14239c1a0d98388e75", func := "trustquorum/trustquorumlaw22.NominationAnswers", spec := "nominationAnswers", inPlace := ["slices.overlaps[string]", "slices.overlaps[trustquorum/api.Nomination]"], unfollowed := true, recurses := true, loops := true, apart := false }
def NominationAnswersSaid : Prop := nominationAnswersRow.holds Tryz.pinned (OpenSpec.ofChange nominationAnswersSpec)

/-- ITS FALSE NEIGHBOUR: 'it returns false'. Refute it at one input. -/
def nominationAnswersWrong : ChangeSpec := { name := "nominationAnswers", fn := fun _ => fun
  | [d1, d2, d3, d4, d5, d6, d7, d8, d9] => { results := [.lit (.bool false)], args := [d1, d2, d3, d4, d5, d6, d7, d8, d9] }
  | _ => none }
def NominationAnswersWrongFalsely : Prop := nominationAnswersRow.holds Tryz.pinned (OpenSpec.ofChange nominationAnswersWrong)

/- THE SECOND FORM. 'bulk': how many values and letters a reading holds, each counted each time it is reached (what is shared counts as often as it is met; a slice's spare places count too). A statement '..UptoSaid' is the law's where the arguments, and the package variables that the reading takes, are together of bulk at most 1048576: NARROWER than '..Said'. Prove '..Said' where nothing that the law and all that it calls make is longer than what came in: it says more and counts as full. Else prove '..UptoSaid'. A law counts once. -/
mutual
def uptoBulk {H : Type} : DataW H → Nat
  | .lit (.string bytes) => bytes.length + 1
  | .lit _ => 1
  | .nil => 1
  | .ptr d => uptoBulk d + 1
  | .slice elems spare => uptoBulkAll elems + uptoBulkAll spare + 1
  | .agg parts => uptoBulkAll parts + 1
  | .iface _ d => uptoBulk d + 1
  | .map entries => uptoBulkEntries entries + 1
  | .held _ => 1
def uptoBulkAll {H : Type} : List (DataW H) → Nat
  | [] => 0
  | d :: r => uptoBulk d + uptoBulkAll r
def uptoBulkEntries {H : Type} : List (Lit × DataW H) → Nat
  | [] => 0
  | x :: r => uptoBulkEntry x + uptoBulkEntries r
def uptoBulkEntry {H : Type} : Lit × DataW H → Nat
  | (.string bytes, d) => bytes.length + uptoBulk d + 1
  | (_, d) => uptoBulk d + 1
 end
def uptoSmall : (H : Type) → List (DataW H) → Bool := fun _ ds => decide (uptoBulkAll ds ≤ 1048576)
def OpenSpec.upto (s : _root_.Go.ChangeSpec) : _root_.Go.OpenSpec := { _root_.Go.OpenSpec.ofChange s with cond := some uptoSmall }

/-- 'trustquorumlaw22.NominationAll', WHERE WHAT IT READS IS OF BULK AT MOST 1048576: true; the input reads as it did. -/
def nominationAllUptoRow : OpenClaim := { program := "ytglokalgdbegeaagreat", sum := "478cf87ec306867049b5a3bab89dbedbb55e7237ab9d9f14239c1a0d98388e75", func := "trustquorum/trustquorumlaw22.NominationAll", spec := "nominationAll", inPlace := ["slices.overlaps[string]", "slices.overlaps[trustquorum/api.Nomination]"], unfollowed := true, recurses := true, apart := false, narrowed := true }
def NominationAllUptoSaid : Prop := nominationAllUptoRow.holds Tryz.pinned (OpenSpec.upto nominationAllSpec)

/-- 'trustquorumlaw22.NominationAgrees', WHERE WHAT IT READS IS OF BULK AT MOST 1048576: true; the input reads as it did. -/
def nominationAgreesUptoRow : OpenClaim := { program := "ytglokalgdbegeaagreat", sum := "478cf87ec306867049b5a3bab89dbedbb55e7237ab9d9f14239c1a0d98388e75", func := "trustquorum/trustquorumlaw22.NominationAgrees", spec := "nominationAgrees", inPlace := ["slices.overlaps[string]", "slices.overlaps[trustquorum/api.Nomination]"], unfollowed := true, recurses := true, apart := false, narrowed := true }
def NominationAgreesUptoSaid : Prop := nominationAgreesUptoRow.holds Tryz.pinned (OpenSpec.upto nominationAgreesSpec)

/-- 'trustquorumlaw22.NominationKeeps', WHERE WHAT IT READS IS OF BULK AT MOST 1048576: true; the input reads as it did. -/
def nominationKeepsUptoRow : OpenClaim := { program := "ytglokalgdbegeaagreat", sum := "478cf87ec306867049b5a3bab89dbedbb55e7237ab9d9f14239c1a0d98388e75", func := "trustquorum/trustquorumlaw22.NominationKeeps", spec := "nominationKeeps", inPlace := ["slices.overlaps[string]", "slices.overlaps[trustquorum/api.Nomination]"], unfollowed := true, recurses := true, apart := false, narrowed := true }
def NominationKeepsUptoSaid : Prop := nominationKeepsUptoRow.holds Tryz.pinned (OpenSpec.upto nominationKeepsSpec)

/-- 'trustquorumlaw22.NominationFollows', WHERE WHAT IT READS IS OF BULK AT MOST 1048576: true; the input reads as it did. -/
def nominationFollowsUptoRow : OpenClaim := { program := "ytglokalgdbegeaagreat", sum := "478cf87ec306867049b5a3bab89dbedbb55e7237ab9d9f14239c1a0d98388e75", func := "trustquorum/trustquorumlaw22.NominationFollows", spec := "nominationFollows", inPlace := ["slices.overlaps[string]", "slices.overlaps[trustquorum/api.Nomination]"], unfollowed := true, recurses := true, apart := false, narrowed := true }
def NominationFollowsUptoSaid : Prop := nominationFollowsUptoRow.holds Tryz.pinned (OpenSpec.upto nominationFollowsSpec)

/-- 'trustquorumlaw22.NominationAnswers', WHERE WHAT IT READS IS OF BULK AT MOST 1048576: true; the input reads as it did. -/
def nominationAnswersUptoRow : OpenClaim := { program := "ytglokalgdbegeaagreat", sum := "478cf87ec306867049b5a3bab89dbedbb55e7237ab9d9f14239c1a0d98388e75", func := "trustquorum/trustquorumlaw22.NominationAnswers", spec := "nominationAnswers", inPlace := ["slices.overlaps[string]", "slices.overlaps[trustquorum/api.Nomination]"], unfollowed := true, recurses := true, loops := true, apart := false, narrowed := true }
def NominationAnswersUptoSaid : Prop := nominationAnswersUptoRow.holds Tryz.pinned (OpenSpec.upto nominationAnswersSpec)

end Rows
end Go.Proofs.YtglokalgdbegeaaGreat
