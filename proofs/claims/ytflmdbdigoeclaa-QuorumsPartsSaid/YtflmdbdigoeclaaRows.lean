/-
  No cell of these rows narrows 'for every input' (looked for: loops, veiled, ifaces, maps, wideKeys, modest, calm, conditions, laid).
  DERIVED. THE GIVEN ROWS OF THIS SEAT. 4 by the template 'for every input the law returns true; each argument reads behind the call as it read before'; 0 by the template 'total and deterministic' (their statements: YtflmdbdigoeclaaTotals.lean).
  GIVEN WITH THE SEED: the statements are not yours to turn. If you find one false, say at which input.
  Laid BY PROGRAM, IN A SANDBOX (cutbox-rows.mjs): the forced cells as the released guide's own fill.sh prints them over the translation c22d8753dc0e79d3… (all of the seat's roots in one cut). By AI agents, Wed Nov 11 2026. No macro, syntax, notation, axiom, sorry.
-/
import Derived.Test.YtflmdbdigoeclaaChecked
import GoSem.Claim
import GoSem.ClaimJoined
import GoSem.ClaimMapViews
import Derived.JoinedTies
import Derived.KernelRfl
namespace Go.Proofs.Ytflmdbdigoeclaa
/- THE CELL 'sum', in the pinned program and in every row, IS THE sha256 OF THE DUMP (.gsa) THAT YtflmdbdigoeclaaProg.lean LOADS. Nothing in Lean hashes anything: it is a label: what it is worth is what the hold of that sum in a sandbox is worth. -/
noncomputable def Try.pinned : Pinned := { name := "ytflmdbdigoeclaa", sum := "c22d8753dc0e79d39a67f8133c0f7d7f278c56fd90d70d75e8ecced13766c611", checked := Try.checked }
namespace Rows
def none {H : Type} : Left H := { results := [], args := [] }

/-- 'trustquorumlaw10.QuorumsMinimal': WHATEVER THE INPUT: true; the input reads as it did. -/
def quorumsMinimalSpec : ChangeSpec := { name := "quorumsMinimal", fn := fun _ => fun
  | [d] => { results := [.lit (.bool true)], args := [d] }
  | _ => none }
def quorumsMinimalRow : OpenClaim := { program := "ytflmdbdigoeclaa", sum := "c22d8753dc0e79d39a67f8133c0f7d7f278c56fd90d70d75e8ecced13766c611", func := "trustquorum/trustquorumlaw10.QuorumsMinimal", spec := "quorumsMinimal", unfollowed := true, recurses := true, apart := false }
def QuorumsMinimalSaid : Prop := quorumsMinimalRow.holds Try.pinned (OpenSpec.ofChange quorumsMinimalSpec)

/-- ITS FALSE NEIGHBOUR: 'it returns false'. Refute it at one input. -/
def quorumsMinimalWrong : ChangeSpec := { name := "quorumsMinimal", fn := fun _ => fun
  | [d] => { results := [.lit (.bool false)], args := [d] }
  | _ => none }
def QuorumsMinimalWrongFalsely : Prop := quorumsMinimalRow.holds Try.pinned (OpenSpec.ofChange quorumsMinimalWrong)

/-- 'trustquorumlaw10.QuorumsParts': WHATEVER THE INPUT: true; the input reads as it did. -/
def quorumsPartsSpec : ChangeSpec := { name := "quorumsParts", fn := fun _ => fun
  | [d] => { results := [.lit (.bool true)], args := [d] }
  | _ => none }
def quorumsPartsRow : OpenClaim := { program := "ytflmdbdigoeclaa", sum := "c22d8753dc0e79d39a67f8133c0f7d7f278c56fd90d70d75e8ecced13766c611", func := "trustquorum/trustquorumlaw10.QuorumsParts", spec := "quorumsParts", unfollowed := true, recurses := true, apart := false }
def QuorumsPartsSaid : Prop := quorumsPartsRow.holds Try.pinned (OpenSpec.ofChange quorumsPartsSpec)

/-- ITS FALSE NEIGHBOUR: 'it returns false'. Refute it at one input. -/
def quorumsPartsWrong : ChangeSpec := { name := "quorumsParts", fn := fun _ => fun
  | [d] => { results := [.lit (.bool false)], args := [d] }
  | _ => none }
def QuorumsPartsWrongFalsely : Prop := quorumsPartsRow.holds Try.pinned (OpenSpec.ofChange quorumsPartsWrong)

/-- 'trustquorumlaw10.QuorumsUniform': WHATEVER THE INPUT: true; the input reads as it did. -/
def quorumsUniformSpec : ChangeSpec := { name := "quorumsUniform", fn := fun _ => fun
  | [d1, d2] => { results := [.lit (.bool true)], args := [d1, d2] }
  | _ => none }
def quorumsUniformRow : OpenClaim := { program := "ytflmdbdigoeclaa", sum := "c22d8753dc0e79d39a67f8133c0f7d7f278c56fd90d70d75e8ecced13766c611", func := "trustquorum/trustquorumlaw10.QuorumsUniform", spec := "quorumsUniform", unfollowed := true, recurses := true, apart := false }
def QuorumsUniformSaid : Prop := quorumsUniformRow.holds Try.pinned (OpenSpec.ofChange quorumsUniformSpec)

/-- ITS FALSE NEIGHBOUR: 'it returns false'. Refute it at one input. -/
def quorumsUniformWrong : ChangeSpec := { name := "quorumsUniform", fn := fun _ => fun
  | [d1, d2] => { results := [.lit (.bool false)], args := [d1, d2] }
  | _ => none }
def QuorumsUniformWrongFalsely : Prop := quorumsUniformRow.holds Try.pinned (OpenSpec.ofChange quorumsUniformWrong)

/-- 'trustquorumlaw10.QuorumsSymmetric': WHATEVER THE INPUT: true; the input reads as it did. -/
def quorumsSymmetricSpec : ChangeSpec := { name := "quorumsSymmetric", fn := fun _ => fun
  | [d] => { results := [.lit (.bool true)], args := [d] }
  | _ => none }
def quorumsSymmetricRow : OpenClaim := { program := "ytflmdbdigoeclaa", sum := "c22d8753dc0e79d39a67f8133c0f7d7f278c56fd90d70d75e8ecced13766c611", func := "trustquorum/trustquorumlaw10.QuorumsSymmetric", spec := "quorumsSymmetric", unfollowed := true, recurses := true, apart := false }
def QuorumsSymmetricSaid : Prop := quorumsSymmetricRow.holds Try.pinned (OpenSpec.ofChange quorumsSymmetricSpec)

/-- ITS FALSE NEIGHBOUR: 'it returns false'. Refute it at one input. -/
def quorumsSymmetricWrong : ChangeSpec := { name := "quorumsSymmetric", fn := fun _ => fun
  | [d] => { results := [.lit (.bool false)], args := [d] }
  | _ => none }
def QuorumsSymmetricWrongFalsely : Prop := quorumsSymmetricRow.holds Try.pinned (OpenSpec.ofChange quorumsSymmetricWrong)

/- THE SECOND FORM. 'bulk': how many values and letters a reading holds, each counted each time it is reached (what is shared counts as often as it is met; a slice's spare places count too). A statement '..UptoSaid' is the law's where the arguments, and the package variables that the reading takes, are together of bulk at most 1048576: NARROWER than '..Said'. Prove '..Said' where nothing that the law and all that it calls make is longer than what came in: it says more and counts as full. Else prove '..UptoSaid'. A law counts once. -/
mutual
def uptoBulk {H : Type} : DataW H → Nat
  | .lit (.string bytes) => bytes.length + 1
  | .lit _ => 1
  | .nil => 1
  | .ptr d => uptoBulk d + 1
  | .slice elems spare => uptoBulkAll elems + uptoBulkAll spare + 1
  | .agg parts => uptoBulkAll parts + 1
  | .iface _ d => uptoBulk d + 1
  | .map entries => uptoBulkEntries entries + 1
  | .held _ => 1
def uptoBulkAll {H : Type} : List (DataW H) → Nat
  | [] => 0
  | d :: r => uptoBulk d + uptoBulkAll r
def uptoBulkEntries {H : Type} : List (Lit × DataW H) → Nat
  | [] => 0
  | x :: r => uptoBulkEntry x + uptoBulkEntries r
def uptoBulkEntry {H : Type} : Lit × DataW H → Nat
  | (.string bytes, d) => bytes.length + uptoBulk d + 1
  | (_, d) => uptoBulk d + 1
 end
def uptoSmall : (H : Type) → List (DataW H) → Bool := fun _ ds => decide (uptoBulkAll ds ≤ 1048576)
def OpenSpec.upto (s : _root_.Go.ChangeSpec) : _root_.Go.OpenSpec := { _root_.Go.OpenSpec.ofChange s with cond := some uptoSmall }

/-- 'trustquorumlaw10.QuorumsMinimal', WHERE WHAT IT READS IS OF BULK AT MOST 1048576: true; the input reads as it did. -/
def quorumsMinimalUptoRow : OpenClaim := { program := "ytflmdbdigoeclaa", sum := "c22d8753dc0e79d39a67f8133c0f7d7f278c56fd90d70d75e8ecced13766c611", func := "trustquorum/trustquorumlaw10.QuorumsMinimal", spec := "quorumsMinimal", unfollowed := true, recurses := true, apart := false, narrowed := true }
def QuorumsMinimalUptoSaid : Prop := quorumsMinimalUptoRow.holds Try.pinned (OpenSpec.upto quorumsMinimalSpec)

/-- 'trustquorumlaw10.QuorumsParts', WHERE WHAT IT READS IS OF BULK AT MOST 1048576: true; the input reads as it did. -/
def quorumsPartsUptoRow : OpenClaim := { program := "ytflmdbdigoeclaa", sum := "c22d8753dc0e79d39a67f8133c0f7d7f278c56fd90d70d75e8ecced13766c611", func := "trustquorum/trustquorumlaw10.QuorumsParts", spec := "quorumsParts", unfollowed := true, recurses := true, apart := false, narrowed := true }
def QuorumsPartsUptoSaid : Prop := quorumsPartsUptoRow.holds Try.pinned (OpenSpec.upto quorumsPartsSpec)

/-- 'trustquorumlaw10.QuorumsUniform', WHERE WHAT IT READS IS OF BULK AT MOST 1048576: true; the input reads as it did. -/
def quorumsUniformUptoRow : OpenClaim := { program := "ytflmdbdigoeclaa", sum := "c22d8753dc0e79d39a67f8133c0f7d7f278c56fd90d70d75e8ecced13766c611", func := "trustquorum/trustquorumlaw10.QuorumsUniform", spec := "quorumsUniform", unfollowed := true, recurses := true, apart := false, narrowed := true }
def QuorumsUniformUptoSaid : Prop := quorumsUniformUptoRow.holds Try.pinned (OpenSpec.upto quorumsUniformSpec)

/-- 'trustquorumlaw10.QuorumsSymmetric', WHERE WHAT IT READS IS OF BULK AT MOST 1048576: true; the input reads as it did. -/
def quorumsSymmetricUptoRow : OpenClaim := { program := "ytflmdbdigoeclaa", sum := "c22d8753dc0e79d39a67f8133c0f7d7f278c56fd90d70d75e8ecced13766c611", func := "trustquorum/trustquorumlaw10.QuorumsSymmetric", spec := "quorumsSymmetric", unfollowed := true, recurses := true, apart := false, narrowed := true }
def QuorumsSymmetricUptoSaid : Prop := quorumsSymmetricUptoRow.holds Try.pinned (OpenSpec.upto quorumsSymmetricSpec)

end Rows
end Go.Proofs.Ytflmdbdigoeclaa
