/- The card of DeletionTwice. -/
import Derived.Test.YtfemjbmfpnpjfaaDoorR1DeletionTwiceRow
import Derived.Test.YtfemjbmfpnpjfaaDoorR1Twice
import Derived.Test.YtfemjbmfpnpjfaaDoorCards
import Derived.Test.YtfemjbmfpnpjfaaDoorTie
import Derived.SevenTiedAt
namespace Go.Proofs.YtfemjbmfpnpjfaaDoor
open Go Go.Ab
theorem twice_card (hlaw : Law 6) : Rows.DeletionTwiceCardSaid :=
  Claim7.holds_tied_plain_at .later [] [.data, .data, .data] true _ false
    (twice_said hlaw) (fun _ h => by cases h) (by kernel_rfl) (fun _ h => by cases h) deletionTwice_row_tie rfl ⟨rfl, rfl⟩ (by kernel_rfl) rfl
    (fun f fn hf hfn => by
      obtain rfl : f = 6 := Option.some.inj ((show Tryd.prog.funcNamed "trustquorum/trustquorumlaw13.DeletionTwice" = some 6 by kernel_rfl).symm.trans hf) |>.symm
      obtain rfl : fn = Tryd.f6 := (Option.some.inj (Tryd.func6.symm.trans hfn)).symm
      exact ⟨by kernel_rfl, fun j t ht => by
        rw [Tryd.params6] at ht
        have hm : t ∈ [22] := by simpa using Array.mem_of_getElem? ht
        have hall : ([22].all fun u => !Tryd.prog.wantsStandIn u) = true := by kernel_rfl
        exact (show Tryd.prog.wantsStandIn t = false by simpa using List.all_eq_true.1 hall t hm)⟩)
    (by kernel_rfl)
theorem twice_proved : Rows.DeletionTwiceCardSaid := twice_card (law_of (twice_law awake_true))
end Go.Proofs.YtfemjbmfpnpjfaaDoor
