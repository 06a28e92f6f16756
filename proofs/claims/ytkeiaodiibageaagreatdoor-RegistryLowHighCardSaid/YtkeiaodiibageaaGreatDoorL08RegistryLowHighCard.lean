/- The card of RegistryLowHigh. -/
import Derived.Test.YtkeiaodiibageaaGreatDoorL08RegistryLowHighRow
import Derived.Test.YtkeiaodiibageaaGreatDoorL08SegB
import Derived.Test.YtkeiaodiibageaaGreatDoorCards
import Derived.Test.YtkeiaodiibageaaGreatDoorTie
import Derived.SevenTiedAt
namespace Go.Proofs.YtkeiaodiibageaaGreatDoor
open Go Go.Ab
theorem ql2 (hlaw : Law 6) : Rows.RegistryLowHighCardSaid :=
 Claim7.holds_tied_plain_at .later [] [.data, .data, .data] true _ false
  (qjd hlaw) (fun _ h => by cases h) (by kernel_rfl) (fun _ h => by cases h) registryLowHigh_row_tie rfl ⟨rfl, rfl⟩ (by kernel_rfl) rfl
  (fun f fn hf hfn => by
   obtain rfl : f = 6 := Option.some.inj ((show Tryz.prog.funcNamed "trustquorum/trustquorumlaw08.RegistryLowHigh" = some 6 by kernel_rfl).symm.trans hf) |>.symm;obtain rfl : fn = Tryz.f6 := (Option.some.inj (Tryz.func6.symm.trans hfn)).symm;exact ⟨by kernel_rfl, fun j t ht => by
    rw [Tryz.params6] at ht;have hm : t ∈ [22] := by simpa using Array.mem_of_getElem? ht
    have hall : ([22].all fun u => !Tryz.prog.wantsStandIn u) = true := by kernel_rfl
    exact (show Tryz.prog.wantsStandIn t = false by simpa using List.all_eq_true.1 hall t hm)⟩)
  (by kernel_rfl)
theorem lowhigh_proved : Rows.RegistryLowHighCardSaid := ql2 (law_of qqp)
end Go.Proofs.YtkeiaodiibageaaGreatDoor
