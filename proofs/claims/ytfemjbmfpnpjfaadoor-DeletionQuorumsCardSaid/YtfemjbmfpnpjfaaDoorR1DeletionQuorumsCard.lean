/- The card of DeletionQuorums. -/
import Derived.Test.YtfemjbmfpnpjfaaDoorR1DeletionQuorumsRow
import Derived.Test.YtfemjbmfpnpjfaaDoorR1Quos
import Derived.Test.YtfemjbmfpnpjfaaDoorCards
import Derived.Test.YtfemjbmfpnpjfaaDoorTie
import Derived.SevenTiedAt
namespace Go.Proofs.YtfemjbmfpnpjfaaDoor
open Go Go.Ab
theorem quos_card (hlaw : Law 7) : Rows.DeletionQuorumsCardSaid :=
  Claim7.holds_tied_plain_at .later [] [.data, .data, .data] true _ false
    (quos_said hlaw) (fun _ h => by cases h) (by kernel_rfl) (fun _ h => by cases h) deletionQuorums_row_tie rfl ⟨rfl, rfl⟩ (by kernel_rfl) rfl
    (fun f fn hf hfn => by
      obtain rfl : f = 7 := Option.some.inj ((show Tryd.prog.funcNamed "trustquorum/trustquorumlaw13.DeletionQuorums" = some 7 by kernel_rfl).symm.trans hf) |>.symm
      obtain rfl : fn = Tryd.f7 := (Option.some.inj (Tryd.func7.symm.trans hfn)).symm
      exact ⟨by kernel_rfl, fun j t ht => by
        rw [Tryd.params7] at ht
        have hm : t ∈ [22] := by simpa using Array.mem_of_getElem? ht
        have hall : ([22].all fun u => !Tryd.prog.wantsStandIn u) = true := by kernel_rfl
        exact (show Tryd.prog.wantsStandIn t = false by simpa using List.all_eq_true.1 hall t hm)⟩)
    (by kernel_rfl)
theorem quos_proved : Rows.DeletionQuorumsCardSaid := quos_card (law_of (quos_law awake_true))
end Go.Proofs.YtfemjbmfpnpjfaaDoor
