/-
  NARROWER THAN 'FOR EVERY INPUT', by the rows' own cells (each row's printed sentence says how): DispensableAnswers: loops.
  DERIVED. THE GIVEN ROWS OF THIS SEAT. 5 by the template 'for every input the law returns true; each argument reads behind the call as it read before'; 0 by the template 'total and deterministic' (their statements: YtbmelgbadedbbaaGreatTotals.lean).
  GIVEN WITH THE SEED: the statements are not yours to turn. If you find one false, say at which input.
  Laid BY PROGRAM, IN A SANDBOX (cutbox-rows.mjs): the forced cells as the released guide's own fill.sh prints them over the translation f19209edb325b292… (all of the seat's roots in one cut). By AI agents, Wed Nov 11 2026. No macro, syntax, notation, axiom, sorry.
-/
import Derived.Test.YtbmelgbadedbbaaGreatChecked
import GoSem.Claim
import GoSem.ClaimJoined
import GoSem.ClaimMapViews
import Derived.JoinedTies
import Derived.KernelRfl
namespace Go.Proofs.YtbmelgbadedbbaaGreat
/- THE CELL 'sum', in the pinned program and in every row, IS THE sha256 OF THE DUMP (.gsa) THAT YtbmelgbadedbbaaGreatProg.lean LOADS. Nothing in Lean hashes anything: it is a label: what it is worth is what the hold of that sum in a sandbox is worth. -/
noncomputable def Tryz.pinned : Pinned := { name := "ytbmelgbadedbbaagreat", sum := "f19209edb325b292e7abfceb199a783270d00e18769eb1872e68338356d6dfca", checked := Tryz.checked }
namespace Rows
def none {H : Type} : Left H := { results := [], args := [] }

/-- 'trustquorumlaw14.DispensableMeets': WHATEVER THE INPUT: true; the input reads as it did. -/
def dispensableMeetsSpec : ChangeSpec := { name := "dispensableMeets", fn := fun _ => fun
  | [d] => { results := [.lit (.bool true)], args := [d] }
  | _ => none }
def dispensableMeetsRow : OpenClaim := { program := "ytbmelgbadedbbaagreat", sum := "f19209edb325b292e7abfceb199a783270d00e18769eb1872e68338356d6dfca", func := "trustquorum/trustquorumlaw14.DispensableMeets", spec := "dispensableMeets", unfollowed := true, recurses := true, apart := false }
def DispensableMeetsSaid : Prop := dispensableMeetsRow.holds Tryz.pinned (OpenSpec.ofChange dispensableMeetsSpec)

/-- ITS FALSE NEIGHBOUR: 'it returns false'. Refute it at one input. -/
def dispensableMeetsWrong : ChangeSpec := { name := "dispensableMeets", fn := fun _ => fun
  | [d] => { results := [.lit (.bool false)], args := [d] }
  | _ => none }
def DispensableMeetsWrongFalsely : Prop := dispensableMeetsRow.holds Tryz.pinned (OpenSpec.ofChange dispensableMeetsWrong)

/-- 'trustquorumlaw14.DispensableRefutes': WHATEVER THE INPUT: true; the input reads as it did. -/
def dispensableRefutesSpec : ChangeSpec := { name := "dispensableRefutes", fn := fun _ => fun
  | [d1, d2] => { results := [.lit (.bool true)], args := [d1, d2] }
  | _ => none }
def dispensableRefutesRow : OpenClaim := { program := "ytbmelgbadedbbaagreat", sum := "f19209edb325b292e7abfceb199a783270d00e18769eb1872e68338356d6dfca", func := "trustquorum/trustquorumlaw14.DispensableRefutes", spec := "dispensableRefutes", unfollowed := true, recurses := true, apart := false }
def DispensableRefutesSaid : Prop := dispensableRefutesRow.holds Tryz.pinned (OpenSpec.ofChange dispensableRefutesSpec)

/-- ITS FALSE NEIGHBOUR: 'it returns false'. Refute it at one input. -/
def dispensableRefutesWrong : ChangeSpec := { name := "dispensableRefutes", fn := fun _ => fun
  | [d1, d2] => { results := [.lit (.bool false)], args := [d1, d2] }
  | _ => none }
def DispensableRefutesWrongFalsely : Prop := dispensableRefutesRow.holds Tryz.pinned (OpenSpec.ofChange dispensableRefutesWrong)

/-- 'trustquorumlaw14.DispensableAnswers': WHATEVER THE INPUT: true; the input reads as it did. -/
def dispensableAnswersSpec : ChangeSpec := { name := "dispensableAnswers", fn := fun _ => fun
  | [d1, d2, d3, d4, d5] => { results := [.lit (.bool true)], args := [d1, d2, d3, d4, d5] }
  | _ => none }
def dispensableAnswersRow : OpenClaim := { program := "ytbmelgbadedbbaagreat", sum := "f19209edb325b292e7abfceb199a783270d00e18769eb1872e68338356d6dfca", func := "trustquorum/trustquorumlaw14.DispensableAnswers", spec := "dispensableAnswers", unfollowed := true, recurses := true, loops := true, apart := false }
def DispensableAnswersSaid : Prop := dispensableAnswersRow.holds Tryz.pinned (OpenSpec.ofChange dispensableAnswersSpec)

/-- ITS FALSE NEIGHBOUR: 'it returns false'. Refute it at one input. -/
def dispensableAnswersWrong : ChangeSpec := { name := "dispensableAnswers", fn := fun _ => fun
  | [d1, d2, d3, d4, d5] => { results := [.lit (.bool false)], args := [d1, d2, d3, d4, d5] }
  | _ => none }
def DispensableAnswersWrongFalsely : Prop := dispensableAnswersRow.holds Tryz.pinned (OpenSpec.ofChange dispensableAnswersWrong)

/-- 'trustquorumlaw14.DispensableAll': WHATEVER THE INPUT: true; the input reads as it did. -/
def dispensableAllSpec : ChangeSpec := { name := "dispensableAll", fn := fun _ => fun
  | [d] => { results := [.lit (.bool true)], args := [d] }
  | _ => none }
def dispensableAllRow : OpenClaim := { program := "ytbmelgbadedbbaagreat", sum := "f19209edb325b292e7abfceb199a783270d00e18769eb1872e68338356d6dfca", func := "trustquorum/trustquorumlaw14.DispensableAll", spec := "dispensableAll", unfollowed := true, recurses := true, apart := false }
def DispensableAllSaid : Prop := dispensableAllRow.holds Tryz.pinned (OpenSpec.ofChange dispensableAllSpec)

/-- ITS FALSE NEIGHBOUR: 'it returns false'. Refute it at one input. -/
def dispensableAllWrong : ChangeSpec := { name := "dispensableAll", fn := fun _ => fun
  | [d] => { results := [.lit (.bool false)], args := [d] }
  | _ => none }
def DispensableAllWrongFalsely : Prop := dispensableAllRow.holds Tryz.pinned (OpenSpec.ofChange dispensableAllWrong)

/-- 'trustquorumlaw14.DispensableMeans': WHATEVER THE INPUT: true; the input reads as it did. -/
def dispensableMeansSpec : ChangeSpec := { name := "dispensableMeans", fn := fun _ => fun
  | [d] => { results := [.lit (.bool true)], args := [d] }
  | _ => none }
def dispensableMeansRow : OpenClaim := { program := "ytbmelgbadedbbaagreat", sum := "f19209edb325b292e7abfceb199a783270d00e18769eb1872e68338356d6dfca", func := "trustquorum/trustquorumlaw14.DispensableMeans", spec := "dispensableMeans", unfollowed := true, recurses := true, apart := false }
def DispensableMeansSaid : Prop := dispensableMeansRow.holds Tryz.pinned (OpenSpec.ofChange dispensableMeansSpec)

/-- ITS FALSE NEIGHBOUR: 'it returns false'. Refute it at one input. -/
def dispensableMeansWrong : ChangeSpec := { name := "dispensableMeans", fn := fun _ => fun
  | [d] => { results := [.lit (.bool false)], args := [d] }
  | _ => none }
def DispensableMeansWrongFalsely : Prop := dispensableMeansRow.holds Tryz.pinned (OpenSpec.ofChange dispensableMeansWrong)

/- THE SECOND FORM. 'bulk': how many values and letters a reading holds, each counted each time it is reached (what is shared counts as often as it is met; a slice's spare places count too). A statement '..UptoSaid' is the law's where the arguments, and the package variables that the reading takes, are together of bulk at most 1048576: NARROWER than '..Said'. Prove '..Said' where nothing that the law and all that it calls make is longer than what came in: it says more and counts as full. Else prove '..UptoSaid'. A law counts once. -/
mutual
def uptoBulk {H : Type} : DataW H → Nat
  | .lit (.string bytes) => bytes.length + 1
  | .lit _ => 1
  | .nil => 1
  | .ptr d => uptoBulk d + 1
  | .slice elems spare => uptoBulkAll elems + uptoBulkAll spare + 1
  | .agg parts => uptoBulkAll parts + 1
  | .iface _ d => uptoBulk d + 1
  | .map entries => uptoBulkEntries entries + 1
  | .held _ => 1
def uptoBulkAll {H : Type} : List (DataW H) → Nat
  | [] => 0
  | d :: r => uptoBulk d + uptoBulkAll r
def uptoBulkEntries {H : Type} : List (Lit × DataW H) → Nat
  | [] => 0
  | x :: r => uptoBulkEntry x + uptoBulkEntries r
def uptoBulkEntry {H : Type} : Lit × DataW H → Nat
  | (.string bytes, d) => bytes.length + uptoBulk d + 1
  | (_, d) => uptoBulk d + 1
 end
def uptoSmall : (H : Type) → List (DataW H) → Bool := fun _ ds => decide (uptoBulkAll ds ≤ 1048576)
def OpenSpec.upto (s : _root_.Go.ChangeSpec) : _root_.Go.OpenSpec := { _root_.Go.OpenSpec.ofChange s with cond := some uptoSmall }

/-- 'trustquorumlaw14.DispensableMeets', WHERE WHAT IT READS IS OF BULK AT MOST 1048576: true; the input reads as it did. -/
def dispensableMeetsUptoRow : OpenClaim := { program := "ytbmelgbadedbbaagreat", sum := "f19209edb325b292e7abfceb199a783270d00e18769eb1872e68338356d6dfca", func := "trustquorum/trustquorumlaw14.DispensableMeets", spec := "dispensableMeets", unfollowed := true, recurses := true, apart := false, narrowed := true }
def DispensableMeetsUptoSaid : Prop := dispensableMeetsUptoRow.holds Tryz.pinned (OpenSpec.upto dispensableMeetsSpec)

/-- 'trustquorumlaw14.DispensableRefutes', WHERE WHAT IT READS IS OF BULK AT MOST 1048576: true; the input reads as it did. -/
def dispensableRefutesUptoRow : OpenClaim := { program := "ytbmelgbadedbbaagreat", sum := "f19209edb325b292e7abfceb199a783270d00e18769eb1872e68338356d6dfca", func := "trustquorum/trustquorumlaw14.DispensableRefutes", spec := "dispensableRefutes", unfollowed := true, recurses := true, apart := false, narrowed := true }
def DispensableRefutesUptoSaid : Prop := dispensableRefutesUptoRow.holds Tryz.pinned (OpenSpec.upto dispensableRefutesSpec)

/-- 'trustquorumlaw14.DispensableAnswers', WHERE WHAT IT READS IS OF BULK AT MOST 1048576: true; the input reads as it did. -/
def dispensableAnswersUptoRow : OpenClaim := { program := "ytbmelgbadedbbaagreat", sum := "f19209edb325b292e7abfceb199a783270d00e18769eb1872e68338356d6dfca", func := "trustquorum/trustquorumlaw14.DispensableAnswers", spec := "dispensableAnswers", unfollowed := true, recurses := true, loops := true, apart := false, narrowed := true }
def DispensableAnswersUptoSaid : Prop := dispensableAnswersUptoRow.holds Tryz.pinned (OpenSpec.upto dispensableAnswersSpec)

/-- 'trustquorumlaw14.DispensableAll', WHERE WHAT IT READS IS OF BULK AT MOST 1048576: true; the input reads as it did. -/
def dispensableAllUptoRow : OpenClaim := { program := "ytbmelgbadedbbaagreat", sum := "f19209edb325b292e7abfceb199a783270d00e18769eb1872e68338356d6dfca", func := "trustquorum/trustquorumlaw14.DispensableAll", spec := "dispensableAll", unfollowed := true, recurses := true, apart := false, narrowed := true }
def DispensableAllUptoSaid : Prop := dispensableAllUptoRow.holds Tryz.pinned (OpenSpec.upto dispensableAllSpec)

/-- 'trustquorumlaw14.DispensableMeans', WHERE WHAT IT READS IS OF BULK AT MOST 1048576: true; the input reads as it did. -/
def dispensableMeansUptoRow : OpenClaim := { program := "ytbmelgbadedbbaagreat", sum := "f19209edb325b292e7abfceb199a783270d00e18769eb1872e68338356d6dfca", func := "trustquorum/trustquorumlaw14.DispensableMeans", spec := "dispensableMeans", unfollowed := true, recurses := true, apart := false, narrowed := true }
def DispensableMeansUptoSaid : Prop := dispensableMeansUptoRow.holds Tryz.pinned (OpenSpec.upto dispensableMeansSpec)

end Rows
end Go.Proofs.YtbmelgbadedbbaaGreat
