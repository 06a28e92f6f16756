/- The card of RegistryArrives. -/
import Derived.Test.YtkeiaodiibageaaGreatDoorP08RegistryArrivesRow
import Derived.Test.YtkeiaodiibageaaGreatDoorP08SegA
import Derived.Test.YtkeiaodiibageaaGreatDoorCards
import Derived.Test.YtkeiaodiibageaaGreatDoorTie
import Derived.SevenTiedAt
namespace Go.Proofs.YtkeiaodiibageaaGreatDoor
open Go Go.Ab
theorem qia (hlaw : Law 4) : Rows.RegistryArrivesCardSaid :=
 Claim7.holds_tied_plain_at .later [] [.data, .data, .data] true _ false
  (qin hlaw) (fun _ h => by cases h) (by kernel_rfl) (fun _ h => by cases h) registryArrives_row_tie rfl ⟨rfl, rfl⟩ (by kernel_rfl) rfl
  (fun f fn hf hfn => by
   obtain rfl : f = 4 := Option.some.inj ((show Tryz.prog.funcNamed "trustquorum/trustquorumlaw08.RegistryArrives" = some 4 by kernel_rfl).symm.trans hf) |>.symm;obtain rfl : fn = Tryz.f4 := (Option.some.inj (Tryz.func4.symm.trans hfn)).symm;exact ⟨by kernel_rfl, fun j t ht => by
    rw [Tryz.params4] at ht;have hm : t ∈ [22] := by simpa using Array.mem_of_getElem? ht
    have hall : ([22].all fun u => !Tryz.prog.wantsStandIn u) = true := by kernel_rfl
    exact (show Tryz.prog.wantsStandIn t = false by simpa using List.all_eq_true.1 hall t hm)⟩)
  (by kernel_rfl)
theorem arrives_proved : Rows.RegistryArrivesCardSaid := qia (law_of qp3)
end Go.Proofs.YtkeiaodiibageaaGreatDoor
