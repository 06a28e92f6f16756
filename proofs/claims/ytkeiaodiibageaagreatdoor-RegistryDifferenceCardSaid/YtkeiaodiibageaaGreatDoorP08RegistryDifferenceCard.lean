/- The card of RegistryDifference. -/
import Derived.Test.YtkeiaodiibageaaGreatDoorP08RegistryDifferenceRow
import Derived.Test.YtkeiaodiibageaaGreatDoorP08SegA
import Derived.Test.YtkeiaodiibageaaGreatDoorCards
import Derived.Test.YtkeiaodiibageaaGreatDoorTie
import Derived.SevenTiedAt
namespace Go.Proofs.YtkeiaodiibageaaGreatDoor
open Go Go.Ab
theorem qkh (hlaw : Law 5) : Rows.RegistryDifferenceCardSaid :=
 Claim7.holds_tied_plain_at .later [] [.data, .data, .data] true _ false
  (qls hlaw) (fun _ h => by cases h) (by kernel_rfl) (fun _ h => by cases h) registryDifference_row_tie rfl ⟨rfl, rfl⟩ (by kernel_rfl) rfl
  (fun f fn hf hfn => by
   obtain rfl : f = 5 := Option.some.inj ((show Tryz.prog.funcNamed "trustquorum/trustquorumlaw08.RegistryDifference" = some 5 by kernel_rfl).symm.trans hf) |>.symm;obtain rfl : fn = Tryz.f5 := (Option.some.inj (Tryz.func5.symm.trans hfn)).symm;exact ⟨by kernel_rfl, fun j t ht => by
    rw [Tryz.params5] at ht;have hm : t ∈ [22] := by simpa using Array.mem_of_getElem? ht
    have hall : ([22].all fun u => !Tryz.prog.wantsStandIn u) = true := by kernel_rfl
    exact (show Tryz.prog.wantsStandIn t = false by simpa using List.all_eq_true.1 hall t hm)⟩)
  (by kernel_rfl)
theorem differ_proved : Rows.RegistryDifferenceCardSaid := qkh (law_of qju)
end Go.Proofs.YtkeiaodiibageaaGreatDoor
