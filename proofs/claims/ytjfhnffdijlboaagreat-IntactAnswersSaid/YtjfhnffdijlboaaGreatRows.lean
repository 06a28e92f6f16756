/-
  NARROWER THAN 'FOR EVERY INPUT', by the rows' own cells (each row's printed sentence says how): IntactAnswers: loops.
  DERIVED. THE GIVEN ROWS OF THIS SEAT. 6 by the template 'for every input the law returns true; each argument reads behind the call as it read before'; 0 by the template 'total and deterministic' (their statements: YtjfhnffdijlboaaGreatTotals.lean).
  GIVEN WITH THE SEED: the statements are not yours to turn. If you find one false, say at which input.
  Laid BY PROGRAM, IN A SANDBOX (cutbox-rows.mjs): the forced cells as the released guide's own fill.sh prints them over the translation c9882c78754b838f… (all of the seat's roots in one cut). By AI agents, Wed Nov 11 2026. No macro, syntax, notation, axiom, sorry.
-/
import Derived.Test.YtjfhnffdijlboaaGreatChecked
import GoSem.Claim
import GoSem.ClaimJoined
import GoSem.ClaimMapViews
import Derived.JoinedTies
import Derived.KernelRfl
namespace Go.Proofs.YtjfhnffdijlboaaGreat
/- THE CELL 'sum', in the pinned program and in every row, IS THE sha256 OF THE DUMP (.gsa) THAT YtjfhnffdijlboaaGreatProg.lean LOADS. Nothing in Lean hashes anything: it is a label: what it is worth is what the hold of that sum in a sandbox is worth. -/
noncomputable def Tryz.pinned : Pinned := { name := "ytjfhnffdijlboaagreat", sum := "c9882c78754b838fe03d43d36ea9171d83658f5a64a330563d0279574e6f9b0f", checked := Tryz.checked }
namespace Rows
def none {H : Type} : Left H := { results := [], args := [] }

/-- 'trustquorumlaw15.IntactQuorum': WHATEVER THE INPUT: true; the input reads as it did. -/
def intactQuorumSpec : ChangeSpec := { name := "intactQuorum", fn := fun _ => fun
  | [d] => { results := [.lit (.bool true)], args := [d] }
  | _ => none }
def intactQuorumRow : OpenClaim := { program := "ytjfhnffdijlboaagreat", sum := "c9882c78754b838fe03d43d36ea9171d83658f5a64a330563d0279574e6f9b0f", func := "trustquorum/trustquorumlaw15.IntactQuorum", spec := "intactQuorum", unfollowed := true, recurses := true, apart := false }
def IntactQuorumSaid : Prop := intactQuorumRow.holds Tryz.pinned (OpenSpec.ofChange intactQuorumSpec)

/-- ITS FALSE NEIGHBOUR: 'it returns false'. Refute it at one input. -/
def intactQuorumWrong : ChangeSpec := { name := "intactQuorum", fn := fun _ => fun
  | [d] => { results := [.lit (.bool false)], args := [d] }
  | _ => none }
def IntactQuorumWrongFalsely : Prop := intactQuorumRow.holds Tryz.pinned (OpenSpec.ofChange intactQuorumWrong)

/-- 'trustquorumlaw15.IntactBlocks': WHATEVER THE INPUT: true; the input reads as it did. -/
def intactBlocksSpec : ChangeSpec := { name := "intactBlocks", fn := fun _ => fun
  | [d] => { results := [.lit (.bool true)], args := [d] }
  | _ => none }
def intactBlocksRow : OpenClaim := { program := "ytjfhnffdijlboaagreat", sum := "c9882c78754b838fe03d43d36ea9171d83658f5a64a330563d0279574e6f9b0f", func := "trustquorum/trustquorumlaw15.IntactBlocks", spec := "intactBlocks", unfollowed := true, recurses := true, apart := false }
def IntactBlocksSaid : Prop := intactBlocksRow.holds Tryz.pinned (OpenSpec.ofChange intactBlocksSpec)

/-- ITS FALSE NEIGHBOUR: 'it returns false'. Refute it at one input. -/
def intactBlocksWrong : ChangeSpec := { name := "intactBlocks", fn := fun _ => fun
  | [d] => { results := [.lit (.bool false)], args := [d] }
  | _ => none }
def IntactBlocksWrongFalsely : Prop := intactBlocksRow.holds Tryz.pinned (OpenSpec.ofChange intactBlocksWrong)

/-- 'trustquorumlaw15.IntactLess': WHATEVER THE INPUT: true; the input reads as it did. -/
def intactLessSpec : ChangeSpec := { name := "intactLess", fn := fun _ => fun
  | [d] => { results := [.lit (.bool true)], args := [d] }
  | _ => none }
def intactLessRow : OpenClaim := { program := "ytjfhnffdijlboaagreat", sum := "c9882c78754b838fe03d43d36ea9171d83658f5a64a330563d0279574e6f9b0f", func := "trustquorum/trustquorumlaw15.IntactLess", spec := "intactLess", unfollowed := true, recurses := true, apart := false }
def IntactLessSaid : Prop := intactLessRow.holds Tryz.pinned (OpenSpec.ofChange intactLessSpec)

/-- ITS FALSE NEIGHBOUR: 'it returns false'. Refute it at one input. -/
def intactLessWrong : ChangeSpec := { name := "intactLess", fn := fun _ => fun
  | [d] => { results := [.lit (.bool false)], args := [d] }
  | _ => none }
def IntactLessWrongFalsely : Prop := intactLessRow.holds Tryz.pinned (OpenSpec.ofChange intactLessWrong)

/-- 'trustquorumlaw15.IntactFollows': WHATEVER THE INPUT: true; the input reads as it did. -/
def intactFollowsSpec : ChangeSpec := { name := "intactFollows", fn := fun _ => fun
  | [d] => { results := [.lit (.bool true)], args := [d] }
  | _ => none }
def intactFollowsRow : OpenClaim := { program := "ytjfhnffdijlboaagreat", sum := "c9882c78754b838fe03d43d36ea9171d83658f5a64a330563d0279574e6f9b0f", func := "trustquorum/trustquorumlaw15.IntactFollows", spec := "intactFollows", unfollowed := true, recurses := true, apart := false }
def IntactFollowsSaid : Prop := intactFollowsRow.holds Tryz.pinned (OpenSpec.ofChange intactFollowsSpec)

/-- ITS FALSE NEIGHBOUR: 'it returns false'. Refute it at one input. -/
def intactFollowsWrong : ChangeSpec := { name := "intactFollows", fn := fun _ => fun
  | [d] => { results := [.lit (.bool false)], args := [d] }
  | _ => none }
def IntactFollowsWrongFalsely : Prop := intactFollowsRow.holds Tryz.pinned (OpenSpec.ofChange intactFollowsWrong)

/-- 'trustquorumlaw15.IntactExplains': WHATEVER THE INPUT: true; the input reads as it did. -/
def intactExplainsSpec : ChangeSpec := { name := "intactExplains", fn := fun _ => fun
  | [d1, d2] => { results := [.lit (.bool true)], args := [d1, d2] }
  | _ => none }
def intactExplainsRow : OpenClaim := { program := "ytjfhnffdijlboaagreat", sum := "c9882c78754b838fe03d43d36ea9171d83658f5a64a330563d0279574e6f9b0f", func := "trustquorum/trustquorumlaw15.IntactExplains", spec := "intactExplains", unfollowed := true, recurses := true, apart := false }
def IntactExplainsSaid : Prop := intactExplainsRow.holds Tryz.pinned (OpenSpec.ofChange intactExplainsSpec)

/-- ITS FALSE NEIGHBOUR: 'it returns false'. Refute it at one input. -/
def intactExplainsWrong : ChangeSpec := { name := "intactExplains", fn := fun _ => fun
  | [d1, d2] => { results := [.lit (.bool false)], args := [d1, d2] }
  | _ => none }
def IntactExplainsWrongFalsely : Prop := intactExplainsRow.holds Tryz.pinned (OpenSpec.ofChange intactExplainsWrong)

/-- 'trustquorumlaw15.IntactAnswers': WHATEVER THE INPUT: true; the input reads as it did. -/
def intactAnswersSpec : ChangeSpec := { name := "intactAnswers", fn := fun _ => fun
  | [d1, d2, d3, d4, d5, d6] => { results := [.lit (.bool true)], args := [d1, d2, d3, d4, d5, d6] }
  | _ => none }
def intactAnswersRow : OpenClaim := { program := "ytjfhnffdijlboaagreat", sum := "c9882c78754b838fe03d43d36ea9171d83658f5a64a330563d0279574e6f9b0f", func := "trustquorum/trustquorumlaw15.IntactAnswers", spec := "intactAnswers", unfollowed := true, recurses := true, loops := true, apart := false }
def IntactAnswersSaid : Prop := intactAnswersRow.holds Tryz.pinned (OpenSpec.ofChange intactAnswersSpec)

/-- ITS FALSE NEIGHBOUR: 'it returns false'. Refute it at one input. -/
def intactAnswersWrong : ChangeSpec := { name := "intactAnswers", fn := fun _ => fun
  | [d1, d2, d3, d4, d5, d6] => { results := [.lit (.bool false)], args := [d1, d2, d3, d4, d5, d6] }
  | _ => none }
def IntactAnswersWrongFalsely : Prop := intactAnswersRow.holds Tryz.pinned (OpenSpec.ofChange intactAnswersWrong)

/- THE SECOND FORM. 'bulk': how many values and letters a reading holds, each counted each time it is reached (what is shared counts as often as it is met; a slice's spare places count too). A statement '..UptoSaid' is the law's where the arguments, and the package variables that the reading takes, are together of bulk at most 1048576: NARROWER than '..Said'. Prove '..Said' where nothing that the law and all that it calls make is longer than what came in: it says more and counts as full. Else prove '..UptoSaid'. A law counts once. -/
mutual
def uptoBulk {H : Type} : DataW H → Nat
  | .lit (.string bytes) => bytes.length + 1
  | .lit _ => 1
  | .nil => 1
  | .ptr d => uptoBulk d + 1
  | .slice elems spare => uptoBulkAll elems + uptoBulkAll spare + 1
  | .agg parts => uptoBulkAll parts + 1
  | .iface _ d => uptoBulk d + 1
  | .map entries => uptoBulkEntries entries + 1
  | .held _ => 1
def uptoBulkAll {H : Type} : List (DataW H) → Nat
  | [] => 0
  | d :: r => uptoBulk d + uptoBulkAll r
def uptoBulkEntries {H : Type} : List (Lit × DataW H) → Nat
  | [] => 0
  | x :: r => uptoBulkEntry x + uptoBulkEntries r
def uptoBulkEntry {H : Type} : Lit × DataW H → Nat
  | (.string bytes, d) => bytes.length + uptoBulk d + 1
  | (_, d) => uptoBulk d + 1
 end
def uptoSmall : (H : Type) → List (DataW H) → Bool := fun _ ds => decide (uptoBulkAll ds ≤ 1048576)
def OpenSpec.upto (s : _root_.Go.ChangeSpec) : _root_.Go.OpenSpec := { _root_.Go.OpenSpec.ofChange s with cond := some uptoSmall }

/-- 'trustquorumlaw15.IntactQuorum', WHERE WHAT IT READS IS OF BULK AT MOST 1048576: true; the input reads as it did. -/
def intactQuorumUptoRow : OpenClaim := { program := "ytjfhnffdijlboaagreat", sum := "c9882c78754b838fe03d43d36ea9171d83658f5a64a330563d0279574e6f9b0f", func := "trustquorum/trustquorumlaw15.IntactQuorum", spec := "intactQuorum", unfollowed := true, recurses := true, apart := false, narrowed := true }
def IntactQuorumUptoSaid : Prop := intactQuorumUptoRow.holds Tryz.pinned (OpenSpec.upto intactQuorumSpec)

/-- 'trustquorumlaw15.IntactBlocks', WHERE WHAT IT READS IS OF BULK AT MOST 1048576: true; the input reads as it did. -/
def intactBlocksUptoRow : OpenClaim := { program := "ytjfhnffdijlboaagreat", sum := "c9882c78754b838fe03d43d36ea9171d83658f5a64a330563d0279574e6f9b0f", func := "trustquorum/trustquorumlaw15.IntactBlocks", spec := "intactBlocks", unfollowed := true, recurses := true, apart := false, narrowed := true }
def IntactBlocksUptoSaid : Prop := intactBlocksUptoRow.holds Tryz.pinned (OpenSpec.upto intactBlocksSpec)

/-- 'trustquorumlaw15.IntactLess', WHERE WHAT IT READS IS OF BULK AT MOST 1048576: true; the input reads as it did. -/
def intactLessUptoRow : OpenClaim := { program := "ytjfhnffdijlboaagreat", sum := "c9882c78754b838fe03d43d36ea9171d83658f5a64a330563d0279574e6f9b0f", func := "trustquorum/trustquorumlaw15.IntactLess", spec := "intactLess", unfollowed := true, recurses := true, apart := false, narrowed := true }
def IntactLessUptoSaid : Prop := intactLessUptoRow.holds Tryz.pinned (OpenSpec.upto intactLessSpec)

/-- 'trustquorumlaw15.IntactFollows', WHERE WHAT IT READS IS OF BULK AT MOST 1048576: true; the input reads as it did. -/
def intactFollowsUptoRow : OpenClaim := { program := "ytjfhnffdijlboaagreat", sum := "c9882c78754b838fe03d43d36ea9171d83658f5a64a330563d0279574e6f9b0f", func := "trustquorum/trustquorumlaw15.IntactFollows", spec := "intactFollows", unfollowed := true, recurses := true, apart := false, narrowed := true }
def IntactFollowsUptoSaid : Prop := intactFollowsUptoRow.holds Tryz.pinned (OpenSpec.upto intactFollowsSpec)

/-- 'trustquorumlaw15.IntactExplains', WHERE WHAT IT READS IS OF BULK AT MOST 1048576: true; the input reads as it did. -/
def intactExplainsUptoRow : OpenClaim := { program := "ytjfhnffdijlboaagreat", sum := "c9882c78754b838fe03d43d36ea9171d83658f5a64a330563d0279574e6f9b0f", func := "trustquorum/trustquorumlaw15.IntactExplains", spec := "intactExplains", unfollowed := true, recurses := true, apart := false, narrowed := true }
def IntactExplainsUptoSaid : Prop := intactExplainsUptoRow.holds Tryz.pinned (OpenSpec.upto intactExplainsSpec)

/-- 'trustquorumlaw15.IntactAnswers', WHERE WHAT IT READS IS OF BULK AT MOST 1048576: true; the input reads as it did. -/
def intactAnswersUptoRow : OpenClaim := { program := "ytjfhnffdijlboaagreat", sum := "c9882c78754b838fe03d43d36ea9171d83658f5a64a330563d0279574e6f9b0f", func := "trustquorum/trustquorumlaw15.IntactAnswers", spec := "intactAnswers", unfollowed := true, recurses := true, loops := true, apart := false, narrowed := true }
def IntactAnswersUptoSaid : Prop := intactAnswersUptoRow.holds Tryz.pinned (OpenSpec.upto intactAnswersSpec)

end Rows
end Go.Proofs.YtjfhnffdijlboaaGreat
