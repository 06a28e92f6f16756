/- The card of RegistryExposes. -/
import Derived.Test.YtkeiaodiibageaaDoorE08RegistryExposesRow
import Derived.Test.YtkeiaodiibageaaDoorE08SegA
import Derived.Test.YtkeiaodiibageaaDoorCards
import Derived.Test.YtkeiaodiibageaaDoorTie
import Derived.SevenTiedAt
namespace Go.Proofs.YtkeiaodiibageaaDoor
open Go Go.Ab
theorem qjd (hlaw : Law 3) : Rows.RegistryExposesCardSaid :=
 Claim7.holds_tied_plain_at .later [] [.data, .data, .data] true _ false
  (qiw hlaw) (fun _ h => by cases h) (by kernel_rfl) (fun _ h => by cases h) registryExposes_row_tie rfl ⟨rfl, rfl⟩ (by kernel_rfl) rfl
  (fun f fn hf hfn => by
   obtain rfl : f = 3 := Option.some.inj ((show Tryd.prog.funcNamed "trustquorum/trustquorumlaw08.RegistryExposes" = some 3 by kernel_rfl).symm.trans hf) |>.symm;obtain rfl : fn = Tryd.f3 := (Option.some.inj (Tryd.func3.symm.trans hfn)).symm;exact ⟨by kernel_rfl, fun j t ht => by
    rw [Tryd.params3] at ht;have hm : t ∈ [22] := by simpa using Array.mem_of_getElem? ht
    have hall : ([22].all fun u => !Tryd.prog.wantsStandIn u) = true := by kernel_rfl
    exact (show Tryd.prog.wantsStandIn t = false by simpa using List.all_eq_true.1 hall t hm)⟩)
  (by kernel_rfl)
theorem exposes_proved : Rows.RegistryExposesCardSaid := qjd (law_of qpc)
end Go.Proofs.YtkeiaodiibageaaDoor
