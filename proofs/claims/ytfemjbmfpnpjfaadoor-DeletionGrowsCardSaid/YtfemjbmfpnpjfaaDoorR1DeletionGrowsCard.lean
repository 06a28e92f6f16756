/- The law DeletionGrows returns true for every list of numbers and leaves the list as it was: the given card. Conditions: those of the given row, no others. -/
import Derived.Test.YtfemjbmfpnpjfaaDoorR1DeletionGrowsRow
import Derived.Test.YtfemjbmfpnpjfaaDoorR1Law
import Derived.Test.YtfemjbmfpnpjfaaDoorCards
import Derived.Test.YtfemjbmfpnpjfaaDoorTie
import Derived.SevenTiedAt
namespace Go.Proofs.YtfemjbmfpnpjfaaDoor
open Go Go.Ab
theorem grows_card (hlaw : Law 4) : Rows.DeletionGrowsCardSaid :=
  Claim7.holds_tied_plain_at .later [] [.data, .data, .data] true _ false
    (grows_said hlaw) (fun _ h => by cases h) (by kernel_rfl) (fun _ h => by cases h) deletionGrows_row_tie rfl ⟨rfl, rfl⟩ (by kernel_rfl) rfl
    (fun f fn hf hfn => by
      obtain rfl : f = 4 := Option.some.inj ((show Tryd.prog.funcNamed "trustquorum/trustquorumlaw13.DeletionGrows" = some 4 by kernel_rfl).symm.trans hf) |>.symm
      obtain rfl : fn = Tryd.f4 := (Option.some.inj (Tryd.func4.symm.trans hfn)).symm
      exact ⟨by kernel_rfl, fun j t ht => by
        rw [Tryd.params4] at ht
        have hm : t ∈ [22] := by simpa using Array.mem_of_getElem? ht
        have hall : ([22].all fun u => !Tryd.prog.wantsStandIn u) = true := by kernel_rfl
        exact (show Tryd.prog.wantsStandIn t = false by simpa using List.all_eq_true.1 hall t hm)⟩)
    (by kernel_rfl)
theorem grows_proved : Rows.DeletionGrowsCardSaid := grows_card (law_of (grows_law awake_true))
end Go.Proofs.YtfemjbmfpnpjfaaDoor
