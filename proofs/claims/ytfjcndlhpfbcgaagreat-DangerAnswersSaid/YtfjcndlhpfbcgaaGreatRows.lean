/-
  NARROWER THAN 'FOR EVERY INPUT', by the rows' own cells (each row's printed sentence says how): DangerAnswers: loops.
  DERIVED. THE GIVEN ROWS OF THIS SEAT. 3 by the template 'for every input the law returns true; each argument reads behind the call as it read before'; 0 by the template 'total and deterministic' (their statements: YtfjcndlhpfbcgaaGreatTotals.lean).
  GIVEN WITH THE SEED: the statements are not yours to turn. If you find one false, say at which input.
  Laid BY PROGRAM, IN A SANDBOX (cutbox-rows.mjs): the forced cells as the released guide's own fill.sh prints them over the translation f84c159dafd0b35d… (all of the seat's roots in one cut). By AI agents, Wed Nov 11 2026. No macro, syntax, notation, axiom, sorry.
-/
import Derived.Test.YtfjcndlhpfbcgaaGreatChecked
import GoSem.Claim
import GoSem.ClaimJoined
import GoSem.ClaimMapViews
import Derived.JoinedTies
import Derived.KernelRfl
namespace Go.Proofs.YtfjcndlhpfbcgaaGreat
/- THE CELL 'sum', in the pinned program and in every row, IS THE sha256 OF THE DUMP (.gsa) THAT YtfjcndlhpfbcgaaGreatProg.lean LOADS. Nothing in Lean hashes anything: it is a label: what it is worth is what the hold of that sum in a sandbox is worth. -/
noncomputable def Tryz.pinned : Pinned := { name := "ytfjcndlhpfbcgaagreat", sum := "f84c159dafd0b35da94aee9e2af15ee303a5bc2a176f9ada5479e2037d53749f", checked := Tryz.checked }
namespace Rows
def none {H : Type} : Left H := { results := [], args := [] }

/-- 'trustquorumlaw16.DangerHalting': WHATEVER THE INPUT: true; the input reads as it did. -/
def dangerHaltingSpec : ChangeSpec := { name := "dangerHalting", fn := fun _ => fun
  | [d] => { results := [.lit (.bool true)], args := [d] }
  | _ => none }
def dangerHaltingRow : OpenClaim := { program := "ytfjcndlhpfbcgaagreat", sum := "f84c159dafd0b35da94aee9e2af15ee303a5bc2a176f9ada5479e2037d53749f", func := "trustquorum/trustquorumlaw16.DangerHalting", spec := "dangerHalting", unfollowed := true, recurses := true, apart := false }
def DangerHaltingSaid : Prop := dangerHaltingRow.holds Tryz.pinned (OpenSpec.ofChange dangerHaltingSpec)

/-- ITS FALSE NEIGHBOUR: 'it returns false'. Refute it at one input. -/
def dangerHaltingWrong : ChangeSpec := { name := "dangerHalting", fn := fun _ => fun
  | [d] => { results := [.lit (.bool false)], args := [d] }
  | _ => none }
def DangerHaltingWrongFalsely : Prop := dangerHaltingRow.holds Tryz.pinned (OpenSpec.ofChange dangerHaltingWrong)

/-- 'trustquorumlaw16.DangerSplitting': WHATEVER THE INPUT: true; the input reads as it did. -/
def dangerSplittingSpec : ChangeSpec := { name := "dangerSplitting", fn := fun _ => fun
  | [d] => { results := [.lit (.bool true)], args := [d] }
  | _ => none }
def dangerSplittingRow : OpenClaim := { program := "ytfjcndlhpfbcgaagreat", sum := "f84c159dafd0b35da94aee9e2af15ee303a5bc2a176f9ada5479e2037d53749f", func := "trustquorum/trustquorumlaw16.DangerSplitting", spec := "dangerSplitting", unfollowed := true, recurses := true, apart := false }
def DangerSplittingSaid : Prop := dangerSplittingRow.holds Tryz.pinned (OpenSpec.ofChange dangerSplittingSpec)

/-- ITS FALSE NEIGHBOUR: 'it returns false'. Refute it at one input. -/
def dangerSplittingWrong : ChangeSpec := { name := "dangerSplitting", fn := fun _ => fun
  | [d] => { results := [.lit (.bool false)], args := [d] }
  | _ => none }
def DangerSplittingWrongFalsely : Prop := dangerSplittingRow.holds Tryz.pinned (OpenSpec.ofChange dangerSplittingWrong)

/-- 'trustquorumlaw16.DangerAnswers': WHATEVER THE INPUT: true; the input reads as it did. -/
def dangerAnswersSpec : ChangeSpec := { name := "dangerAnswers", fn := fun _ => fun
  | [d1, d2, d3] => { results := [.lit (.bool true)], args := [d1, d2, d3] }
  | _ => none }
def dangerAnswersRow : OpenClaim := { program := "ytfjcndlhpfbcgaagreat", sum := "f84c159dafd0b35da94aee9e2af15ee303a5bc2a176f9ada5479e2037d53749f", func := "trustquorum/trustquorumlaw16.DangerAnswers", spec := "dangerAnswers", unfollowed := true, recurses := true, loops := true, apart := false }
def DangerAnswersSaid : Prop := dangerAnswersRow.holds Tryz.pinned (OpenSpec.ofChange dangerAnswersSpec)

/-- ITS FALSE NEIGHBOUR: 'it returns false'. Refute it at one input. -/
def dangerAnswersWrong : ChangeSpec := { name := "dangerAnswers", fn := fun _ => fun
  | [d1, d2, d3] => { results := [.lit (.bool false)], args := [d1, d2, d3] }
  | _ => none }
def DangerAnswersWrongFalsely : Prop := dangerAnswersRow.holds Tryz.pinned (OpenSpec.ofChange dangerAnswersWrong)

/- THE SECOND FORM. 'bulk': how many values and letters a reading holds, each counted each time it is reached (what is shared counts as often as it is met; a slice's spare places count too). A statement '..UptoSaid' is the law's where the arguments, and the package variables that the reading takes, are together of bulk at most 1048576: NARROWER than '..Said'. Prove '..Said' where nothing that the law and all that it calls make is longer than what came in: it says more and counts as full. Else prove '..UptoSaid'. A law counts once. -/
mutual
def uptoBulk {H : Type} : DataW H → Nat
  | .lit (.string bytes) => bytes.length + 1
  | .lit _ => 1
  | .nil => 1
  | .ptr d => uptoBulk d + 1
  | .slice elems spare => uptoBulkAll elems + uptoBulkAll spare + 1
  | .agg parts => uptoBulkAll parts + 1
  | .iface _ d => uptoBulk d + 1
  | .map entries => uptoBulkEntries entries + 1
  | .held _ => 1
def uptoBulkAll {H : Type} : List (DataW H) → Nat
  | [] => 0
  | d :: r => uptoBulk d + uptoBulkAll r
def uptoBulkEntries {H : Type} : List (Lit × DataW H) → Nat
  | [] => 0
  | x :: r => uptoBulkEntry x + uptoBulkEntries r
def uptoBulkEntry {H : Type} : Lit × DataW H → Nat
  | (.string bytes, d) => bytes.length + uptoBulk d + 1
  | (_, d) => uptoBulk d + 1
 end
def uptoSmall : (H : Type) → List (DataW H) → Bool := fun _ ds => decide (uptoBulkAll ds ≤ 1048576)
def OpenSpec.upto (s : _root_.Go.ChangeSpec) : _root_.Go.OpenSpec := { _root_.Go.OpenSpec.ofChange s with cond := some uptoSmall }

/-- 'trustquorumlaw16.DangerHalting', WHERE WHAT IT READS IS OF BULK AT MOST 1048576: true; the input reads as it did. -/
def dangerHaltingUptoRow : OpenClaim := { program := "ytfjcndlhpfbcgaagreat", sum := "f84c159dafd0b35da94aee9e2af15ee303a5bc2a176f9ada5479e2037d53749f", func := "trustquorum/trustquorumlaw16.DangerHalting", spec := "dangerHalting", unfollowed := true, recurses := true, apart := false, narrowed := true }
def DangerHaltingUptoSaid : Prop := dangerHaltingUptoRow.holds Tryz.pinned (OpenSpec.upto dangerHaltingSpec)

/-- 'trustquorumlaw16.DangerSplitting', WHERE WHAT IT READS IS OF BULK AT MOST 1048576: true; the input reads as it did. -/
def dangerSplittingUptoRow : OpenClaim := { program := "ytfjcndlhpfbcgaagreat", sum := "f84c159dafd0b35da94aee9e2af15ee303a5bc2a176f9ada5479e2037d53749f", func := "trustquorum/trustquorumlaw16.DangerSplitting", spec := "dangerSplitting", unfollowed := true, recurses := true, apart := false, narrowed := true }
def DangerSplittingUptoSaid : Prop := dangerSplittingUptoRow.holds Tryz.pinned (OpenSpec.upto dangerSplittingSpec)

/-- 'trustquorumlaw16.DangerAnswers', WHERE WHAT IT READS IS OF BULK AT MOST 1048576: true; the input reads as it did. -/
def dangerAnswersUptoRow : OpenClaim := { program := "ytfjcndlhpfbcgaagreat", sum := "f84c159dafd0b35da94aee9e2af15ee303a5bc2a176f9ada5479e2037d53749f", func := "trustquorum/trustquorumlaw16.DangerAnswers", spec := "dangerAnswers", unfollowed := true, recurses := true, loops := true, apart := false, narrowed := true }
def DangerAnswersUptoSaid : Prop := dangerAnswersUptoRow.holds Tryz.pinned (OpenSpec.upto dangerAnswersSpec)

end Rows
end Go.Proofs.YtfjcndlhpfbcgaaGreat
