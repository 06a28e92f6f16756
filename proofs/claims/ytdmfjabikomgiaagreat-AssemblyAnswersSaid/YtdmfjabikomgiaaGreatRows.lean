/-
  NARROWER THAN 'FOR EVERY INPUT', by the rows' own cells (each row's printed sentence says how): AssemblyAnswers: loops.
  DERIVED. THE GIVEN ROWS OF THIS SEAT. 8 by the template 'for every input the law returns true; each argument reads behind the call as it read before'; 0 by the template 'total and deterministic' (their statements: YtdmfjabikomgiaaGreatTotals.lean).
  GIVEN WITH THE SEED: the statements are not yours to turn. If you find one false, say at which input.
  Laid BY PROGRAM, IN A SANDBOX (cutbox-rows.mjs): the forced cells as the released guide's own fill.sh prints them over the translation 0e3db8e44f085f6b… (all of the seat's roots in one cut). By AI agents, Wed Nov 11 2026. No macro, syntax, notation, axiom, sorry.
-/
import Derived.Test.YtdmfjabikomgiaaGreatChecked
import GoSem.Claim
import GoSem.ClaimJoined
import GoSem.ClaimMapViews
import Derived.JoinedTies
import Derived.KernelRfl
namespace Go.Proofs.YtdmfjabikomgiaaGreat
/- THE CELL 'sum', in the pinned program and in every row, IS THE sha256 OF THE DUMP (.gsa) THAT YtdmfjabikomgiaaGreatProg.lean LOADS. Nothing in Lean hashes anything: it is a label: what it is worth is what the hold of that sum in a sandbox is worth. -/
noncomputable def Tryz.pinned : Pinned := { name := "ytdmfjabikomgiaagreat", sum := "0e3db8e44f085f6ba6beb41817df3386d63124ef33cf2990226cf135c7f5f0b8", checked := Tryz.checked }
namespace Rows
def none {H : Type} : Left H := { results := [], args := [] }

/-- 'trustquorumlaw20.AssemblySafe': WHATEVER THE INPUT: true; the input reads as it did. -/
def assemblySafeSpec : ChangeSpec := { name := "assemblySafe", fn := fun _ => fun
  | [d] => { results := [.lit (.bool true)], args := [d] }
  | _ => none }
def assemblySafeRow : OpenClaim := { program := "ytdmfjabikomgiaagreat", sum := "0e3db8e44f085f6ba6beb41817df3386d63124ef33cf2990226cf135c7f5f0b8", func := "trustquorum/trustquorumlaw20.AssemblySafe", spec := "assemblySafe", inPlace := ["slices.overlaps[trustquorum/api.Message]"], unfollowed := true, recurses := true, apart := false }
def AssemblySafeSaid : Prop := assemblySafeRow.holds Tryz.pinned (OpenSpec.ofChange assemblySafeSpec)

/-- ITS FALSE NEIGHBOUR: 'it returns false'. Refute it at one input. -/
def assemblySafeWrong : ChangeSpec := { name := "assemblySafe", fn := fun _ => fun
  | [d] => { results := [.lit (.bool false)], args := [d] }
  | _ => none }
def AssemblySafeWrongFalsely : Prop := assemblySafeRow.holds Tryz.pinned (OpenSpec.ofChange assemblySafeWrong)

/-- 'trustquorumlaw20.AssemblyAccepts': WHATEVER THE INPUT: true; the input reads as it did. -/
def assemblyAcceptsSpec : ChangeSpec := { name := "assemblyAccepts", fn := fun _ => fun
  | [d] => { results := [.lit (.bool true)], args := [d] }
  | _ => none }
def assemblyAcceptsRow : OpenClaim := { program := "ytdmfjabikomgiaagreat", sum := "0e3db8e44f085f6ba6beb41817df3386d63124ef33cf2990226cf135c7f5f0b8", func := "trustquorum/trustquorumlaw20.AssemblyAccepts", spec := "assemblyAccepts", inPlace := ["slices.overlaps[trustquorum/api.Message]"], unfollowed := true, recurses := true, apart := false }
def AssemblyAcceptsSaid : Prop := assemblyAcceptsRow.holds Tryz.pinned (OpenSpec.ofChange assemblyAcceptsSpec)

/-- ITS FALSE NEIGHBOUR: 'it returns false'. Refute it at one input. -/
def assemblyAcceptsWrong : ChangeSpec := { name := "assemblyAccepts", fn := fun _ => fun
  | [d] => { results := [.lit (.bool false)], args := [d] }
  | _ => none }
def AssemblyAcceptsWrongFalsely : Prop := assemblyAcceptsRow.holds Tryz.pinned (OpenSpec.ofChange assemblyAcceptsWrong)

/-- 'trustquorumlaw20.AssemblyCascade': WHATEVER THE INPUT: true; the input reads as it did. -/
def assemblyCascadeSpec : ChangeSpec := { name := "assemblyCascade", fn := fun _ => fun
  | [d] => { results := [.lit (.bool true)], args := [d] }
  | _ => none }
def assemblyCascadeRow : OpenClaim := { program := "ytdmfjabikomgiaagreat", sum := "0e3db8e44f085f6ba6beb41817df3386d63124ef33cf2990226cf135c7f5f0b8", func := "trustquorum/trustquorumlaw20.AssemblyCascade", spec := "assemblyCascade", inPlace := ["slices.overlaps[trustquorum/api.Message]"], unfollowed := true, recurses := true, apart := false }
def AssemblyCascadeSaid : Prop := assemblyCascadeRow.holds Tryz.pinned (OpenSpec.ofChange assemblyCascadeSpec)

/-- ITS FALSE NEIGHBOUR: 'it returns false'. Refute it at one input. -/
def assemblyCascadeWrong : ChangeSpec := { name := "assemblyCascade", fn := fun _ => fun
  | [d] => { results := [.lit (.bool false)], args := [d] }
  | _ => none }
def AssemblyCascadeWrongFalsely : Prop := assemblyCascadeRow.holds Tryz.pinned (OpenSpec.ofChange assemblyCascadeWrong)

/-- 'trustquorumlaw20.AssemblyAgrees': WHATEVER THE INPUT: true; the input reads as it did. -/
def assemblyAgreesSpec : ChangeSpec := { name := "assemblyAgrees", fn := fun _ => fun
  | [d] => { results := [.lit (.bool true)], args := [d] }
  | _ => none }
def assemblyAgreesRow : OpenClaim := { program := "ytdmfjabikomgiaagreat", sum := "0e3db8e44f085f6ba6beb41817df3386d63124ef33cf2990226cf135c7f5f0b8", func := "trustquorum/trustquorumlaw20.AssemblyAgrees", spec := "assemblyAgrees", inPlace := ["slices.overlaps[trustquorum/api.Message]"], unfollowed := true, recurses := true, apart := false }
def AssemblyAgreesSaid : Prop := assemblyAgreesRow.holds Tryz.pinned (OpenSpec.ofChange assemblyAgreesSpec)

/-- ITS FALSE NEIGHBOUR: 'it returns false'. Refute it at one input. -/
def assemblyAgreesWrong : ChangeSpec := { name := "assemblyAgrees", fn := fun _ => fun
  | [d] => { results := [.lit (.bool false)], args := [d] }
  | _ => none }
def AssemblyAgreesWrongFalsely : Prop := assemblyAgreesRow.holds Tryz.pinned (OpenSpec.ofChange assemblyAgreesWrong)

/-- 'trustquorumlaw20.AssemblyHalts': WHATEVER THE INPUT: true; the input reads as it did. -/
def assemblyHaltsSpec : ChangeSpec := { name := "assemblyHalts", fn := fun _ => fun
  | [d] => { results := [.lit (.bool true)], args := [d] }
  | _ => none }
def assemblyHaltsRow : OpenClaim := { program := "ytdmfjabikomgiaagreat", sum := "0e3db8e44f085f6ba6beb41817df3386d63124ef33cf2990226cf135c7f5f0b8", func := "trustquorum/trustquorumlaw20.AssemblyHalts", spec := "assemblyHalts", inPlace := ["slices.overlaps[trustquorum/api.Message]"], unfollowed := true, recurses := true, apart := false }
def AssemblyHaltsSaid : Prop := assemblyHaltsRow.holds Tryz.pinned (OpenSpec.ofChange assemblyHaltsSpec)

/-- ITS FALSE NEIGHBOUR: 'it returns false'. Refute it at one input. -/
def assemblyHaltsWrong : ChangeSpec := { name := "assemblyHalts", fn := fun _ => fun
  | [d] => { results := [.lit (.bool false)], args := [d] }
  | _ => none }
def AssemblyHaltsWrongFalsely : Prop := assemblyHaltsRow.holds Tryz.pinned (OpenSpec.ofChange assemblyHaltsWrong)

/-- 'trustquorumlaw20.AssemblyCalm': WHATEVER THE INPUT: true; the input reads as it did. -/
def assemblyCalmSpec : ChangeSpec := { name := "assemblyCalm", fn := fun _ => fun
  | [d] => { results := [.lit (.bool true)], args := [d] }
  | _ => none }
def assemblyCalmRow : OpenClaim := { program := "ytdmfjabikomgiaagreat", sum := "0e3db8e44f085f6ba6beb41817df3386d63124ef33cf2990226cf135c7f5f0b8", func := "trustquorum/trustquorumlaw20.AssemblyCalm", spec := "assemblyCalm", inPlace := ["slices.overlaps[trustquorum/api.Message]"], unfollowed := true, recurses := true, apart := false }
def AssemblyCalmSaid : Prop := assemblyCalmRow.holds Tryz.pinned (OpenSpec.ofChange assemblyCalmSpec)

/-- ITS FALSE NEIGHBOUR: 'it returns false'. Refute it at one input. -/
def assemblyCalmWrong : ChangeSpec := { name := "assemblyCalm", fn := fun _ => fun
  | [d] => { results := [.lit (.bool false)], args := [d] }
  | _ => none }
def AssemblyCalmWrongFalsely : Prop := assemblyCalmRow.holds Tryz.pinned (OpenSpec.ofChange assemblyCalmWrong)

/-- 'trustquorumlaw20.AssemblyAnswers': WHATEVER THE INPUT: true; the input reads as it did. -/
def assemblyAnswersSpec : ChangeSpec := { name := "assemblyAnswers", fn := fun _ => fun
  | [d1, d2, d3, d4, d5, d6] => { results := [.lit (.bool true)], args := [d1, d2, d3, d4, d5, d6] }
  | _ => none }
def assemblyAnswersRow : OpenClaim := { program := "ytdmfjabikomgiaagreat", sum := "0e3db8e44f085f6ba6beb41817df3386d63124ef33cf2990226cf135c7f5f0b8", func := "trustquorum/trustquorumlaw20.AssemblyAnswers", spec := "assemblyAnswers", inPlace := ["slices.overlaps[trustquorum/api.Message]"], unfollowed := true, recurses := true, loops := true, apart := false }
def AssemblyAnswersSaid : Prop := assemblyAnswersRow.holds Tryz.pinned (OpenSpec.ofChange assemblyAnswersSpec)

/-- ITS FALSE NEIGHBOUR: 'it returns false'. Refute it at one input. -/
def assemblyAnswersWrong : ChangeSpec := { name := "assemblyAnswers", fn := fun _ => fun
  | [d1, d2, d3, d4, d5, d6] => { results := [.lit (.bool false)], args := [d1, d2, d3, d4, d5, d6] }
  | _ => none }
def AssemblyAnswersWrongFalsely : Prop := assemblyAnswersRow.holds Tryz.pinned (OpenSpec.ofChange assemblyAnswersWrong)

/-- 'trustquorumlaw20.AssemblySplits': WHATEVER THE INPUT: true; the input reads as it did. -/
def assemblySplitsSpec : ChangeSpec := { name := "assemblySplits", fn := fun _ => fun
  | [d] => { results := [.lit (.bool true)], args := [d] }
  | _ => none }
def assemblySplitsRow : OpenClaim := { program := "ytdmfjabikomgiaagreat", sum := "0e3db8e44f085f6ba6beb41817df3386d63124ef33cf2990226cf135c7f5f0b8", func := "trustquorum/trustquorumlaw20.AssemblySplits", spec := "assemblySplits", inPlace := ["slices.overlaps[trustquorum/api.Message]"], unfollowed := true, recurses := true, apart := false }
def AssemblySplitsSaid : Prop := assemblySplitsRow.holds Tryz.pinned (OpenSpec.ofChange assemblySplitsSpec)

/-- ITS FALSE NEIGHBOUR: 'it returns false'. Refute it at one input. -/
def assemblySplitsWrong : ChangeSpec := { name := "assemblySplits", fn := fun _ => fun
  | [d] => { results := [.lit (.bool false)], args := [d] }
  | _ => none }
def AssemblySplitsWrongFalsely : Prop := assemblySplitsRow.holds Tryz.pinned (OpenSpec.ofChange assemblySplitsWrong)

/- THE SECOND FORM. 'bulk': how many values and letters a reading holds, each counted each time it is reached (what is shared counts as often as it is met; a slice's spare places count too). A statement '..UptoSaid' is the law's where the arguments, and the package variables that the reading takes, are together of bulk at most 1048576: NARROWER than '..Said'. Prove '..Said' where nothing that the law and all that it calls make is longer than what came in: it says more and counts as full. Else prove '..UptoSaid'. A law counts once. -/
mutual
def uptoBulk {H : Type} : DataW H → Nat
  | .lit (.string bytes) => bytes.length + 1
  | .lit _ => 1
  | .nil => 1
  | .ptr d => uptoBulk d + 1
  | .slice elems spare => uptoBulkAll elems + uptoBulkAll spare + 1
  | .agg parts => uptoBulkAll parts + 1
  | .iface _ d => uptoBulk d + 1
  | .map entries => uptoBulkEntries entries + 1
  | .held _ => 1
def uptoBulkAll {H : Type} : List (DataW H) → Nat
  | [] => 0
  | d :: r => uptoBulk d + uptoBulkAll r
def uptoBulkEntries {H : Type} : List (Lit × DataW H) → Nat
  | [] => 0
  | x :: r => uptoBulkEntry x + uptoBulkEntries r
def uptoBulkEntry {H : Type} : Lit × DataW H → Nat
  | (.string bytes, d) => bytes.length + uptoBulk d + 1
  | (_, d) => uptoBulk d + 1
 end
def uptoSmall : (H : Type) → List (DataW H) → Bool := fun _ ds => decide (uptoBulkAll ds ≤ 1048576)
def OpenSpec.upto (s : _root_.Go.ChangeSpec) : _root_.Go.OpenSpec := { _root_.Go.OpenSpec.ofChange s with cond := some uptoSmall }

/-- 'trustquorumlaw20.AssemblySafe', WHERE WHAT IT READS IS OF BULK AT MOST 1048576: true; the input reads as it did. -/
def assemblySafeUptoRow : OpenClaim := { program := "ytdmfjabikomgiaagreat", sum := "0e3db8e44f085f6ba6beb41817df3386d63124ef33cf2990226cf135c7f5f0b8", func := "trustquorum/trustquorumlaw20.AssemblySafe", spec := "assemblySafe", inPlace := ["slices.overlaps[trustquorum/api.Message]"], unfollowed := true, recurses := true, apart := false, narrowed := true }
def AssemblySafeUptoSaid : Prop := assemblySafeUptoRow.holds Tryz.pinned (OpenSpec.upto assemblySafeSpec)

/-- 'trustquorumlaw20.AssemblyAccepts', WHERE WHAT IT READS IS OF BULK AT MOST 1048576: true; the input reads as it did. -/
def assemblyAcceptsUptoRow : OpenClaim := { program := "ytdmfjabikomgiaagreat", sum := "0e3db8e44f085f6ba6beb41817df3386d63124ef33cf2990226cf135c7f5f0b8", func := "trustquorum/trustquorumlaw20.AssemblyAccepts", spec := "assemblyAccepts", inPlace := ["slices.overlaps[trustquorum/api.Message]"], unfollowed := true, recurses := true, apart := false, narrowed := true }
def AssemblyAcceptsUptoSaid : Prop := assemblyAcceptsUptoRow.holds Tryz.pinned (OpenSpec.upto assemblyAcceptsSpec)

/-- 'trustquorumlaw20.AssemblyCascade', WHERE WHAT IT READS IS OF BULK AT MOST 1048576: true; the input reads as it did. -/
def assemblyCascadeUptoRow : OpenClaim := { program := "ytdmfjabikomgiaagreat", sum := "0e3db8e44f085f6ba6beb41817df3386d63124ef33cf2990226cf135c7f5f0b8", func := "trustquorum/trustquorumlaw20.AssemblyCascade", spec := "assemblyCascade", inPlace := ["slices.overlaps[trustquorum/api.Message]"], unfollowed := true, recurses := true, apart := false, narrowed := true }
def AssemblyCascadeUptoSaid : Prop := assemblyCascadeUptoRow.holds Tryz.pinned (OpenSpec.upto assemblyCascadeSpec)

/-- 'trustquorumlaw20.AssemblyAgrees', WHERE WHAT IT READS IS OF BULK AT MOST 1048576: true; the input reads as it did. -/
def assemblyAgreesUptoRow : OpenClaim := { program := "ytdmfjabikomgiaagreat", sum := "0e3db8e44f085f6ba6beb41817df3386d63124ef33cf2990226cf135c7f5f0b8", func := "trustquorum/trustquorumlaw20.AssemblyAgrees", spec := "assemblyAgrees", inPlace := ["slices.overlaps[trustquorum/api.Message]"], unfollowed := true, recurses := true, apart := false, narrowed := true }
def AssemblyAgreesUptoSaid : Prop := assemblyAgreesUptoRow.holds Tryz.pinned (OpenSpec.upto assemblyAgreesSpec)

/-- 'trustquorumlaw20.AssemblyHalts', WHERE WHAT IT READS IS OF BULK AT MOST 1048576: true; the input reads as it did. -/
def assemblyHaltsUptoRow : OpenClaim := { program := "ytdmfjabikomgiaagreat", sum := "0e3db8e44f085f6ba6beb41817df3386d63124ef33cf2990226cf135c7f5f0b8", func := "trustquorum/trustquorumlaw20.AssemblyHalts", spec := "assemblyHalts", inPlace := ["slices.overlaps[trustquorum/api.Message]"], unfollowed := true, recurses := true, apart := false, narrowed := true }
def AssemblyHaltsUptoSaid : Prop := assemblyHaltsUptoRow.holds Tryz.pinned (OpenSpec.upto assemblyHaltsSpec)

/-- 'trustquorumlaw20.AssemblyCalm', WHERE WHAT IT READS IS OF BULK AT MOST 1048576: true; the input reads as it did. -/
def assemblyCalmUptoRow : OpenClaim := { program := "ytdmfjabikomgiaagreat", sum := "0e3db8e44f085f6ba6beb41817df3386d63124ef33cf2990226cf135c7f5f0b8", func := "trustquorum/trustquorumlaw20.AssemblyCalm", spec := "assemblyCalm", inPlace := ["slices.overlaps[trustquorum/api.Message]"], unfollowed := true, recurses := true, apart := false, narrowed := true }
def AssemblyCalmUptoSaid : Prop := assemblyCalmUptoRow.holds Tryz.pinned (OpenSpec.upto assemblyCalmSpec)

/-- 'trustquorumlaw20.AssemblyAnswers', WHERE WHAT IT READS IS OF BULK AT MOST 1048576: true; the input reads as it did. -/
def assemblyAnswersUptoRow : OpenClaim := { program := "ytdmfjabikomgiaagreat", sum := "0e3db8e44f085f6ba6beb41817df3386d63124ef33cf2990226cf135c7f5f0b8", func := "trustquorum/trustquorumlaw20.AssemblyAnswers", spec := "assemblyAnswers", inPlace := ["slices.overlaps[trustquorum/api.Message]"], unfollowed := true, recurses := true, loops := true, apart := false, narrowed := true }
def AssemblyAnswersUptoSaid : Prop := assemblyAnswersUptoRow.holds Tryz.pinned (OpenSpec.upto assemblyAnswersSpec)

/-- 'trustquorumlaw20.AssemblySplits', WHERE WHAT IT READS IS OF BULK AT MOST 1048576: true; the input reads as it did. -/
def assemblySplitsUptoRow : OpenClaim := { program := "ytdmfjabikomgiaagreat", sum := "0e3db8e44f085f6ba6beb41817df3386d63124ef33cf2990226cf135c7f5f0b8", func := "trustquorum/trustquorumlaw20.AssemblySplits", spec := "assemblySplits", inPlace := ["slices.overlaps[trustquorum/api.Message]"], unfollowed := true, recurses := true, apart := false, narrowed := true }
def AssemblySplitsUptoSaid : Prop := assemblySplitsUptoRow.holds Tryz.pinned (OpenSpec.upto assemblySplitsSpec)

end Rows
end Go.Proofs.YtdmfjabikomgiaaGreat
