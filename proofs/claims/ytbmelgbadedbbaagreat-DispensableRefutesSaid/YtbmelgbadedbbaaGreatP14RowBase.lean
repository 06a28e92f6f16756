/- From an answer on the machine to a walk in any world. -/
import Derived.Test.YtbmelgbadedbbaaGreatP14Base
import Derived.Test.YtbmelgbadedbbaaGreatRows
import Derived.ProofKit
import Derived.LaidMore
import Derived.OpenShut
import Derived.Stop.Joined
namespace Go.Proofs.YtbmelgbadedbbaaGreat
open Go Go.Ab Go.ChangeShapes Go.WideShapes Go.ChangeAt Go.WideMaps Go.WideElems Go.RowKit
theorem Tryz.own : ownKnob Tryz.prog.godebug = none := by kernel_rfl
theorem Tryz.laidOut : laidOutB Tryz.prog = true := by kernel_rfl
theorem qfv {f : Nat} (hlaw : ∀ zs : List Int, (∀ z ∈ zs, (Lit.int .i64 z).wf = true) → ∃ n h', call env n f [.d (ints .i64 zs)] [] = some (.d (.v (.bool true)), h'))
  {W : World} {v : Value} {zs : List Int} (hz : ∀ z ∈ zs, (Lit.int .i64 z).wf = true) (hv : Rep W q48 (ints .i64 zs) v) :
  Calls Tryz.prog f #[v] W fun e w' => e = .returned (.bool true) ∧ Below W.heap.size W w' := by
 obtain ⟨n, h', hc⟩ := hlaw zs hz;exact top (E := env) (y0j n) (fun g cs hg => by cases hg) (ds := [ints .i64 zs]) hc rfl (fun i d hd => by
  cases i with
  | zero => simp at hd; subst hd; exact hv
  | succ i => simp at hd)
end Go.Proofs.YtbmelgbadedbbaaGreat
