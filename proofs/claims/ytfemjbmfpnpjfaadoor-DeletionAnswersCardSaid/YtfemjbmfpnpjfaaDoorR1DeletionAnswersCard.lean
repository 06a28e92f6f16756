/- The card of DeletionAnswers. -/
import Derived.Test.YtfemjbmfpnpjfaaDoorR1DeletionAnswersRow
import Derived.Test.YtfemjbmfpnpjfaaDoorCards
import Derived.Test.YtfemjbmfpnpjfaaDoorTie
import Derived.SevenTiedAt
namespace Go.Proofs.YtfemjbmfpnpjfaaDoor
open Go Go.Ab
theorem answers_card (hlaw : LawA) : Rows.DeletionAnswersCardSaid :=
  Claim7.holds_tied_plain_at .later [] [.data, .data, .data] true _ false
    (answers_said hlaw) (fun _ h => by cases h) (by kernel_rfl) (fun _ h => by cases h) deletionAnswers_row_tie rfl ⟨rfl, rfl⟩ (by kernel_rfl) rfl
    (fun f fn hf hfn => by
      obtain rfl : f = 5 := Option.some.inj ((show Tryd.prog.funcNamed "trustquorum/trustquorumlaw13.DeletionAnswers" = some 5 by kernel_rfl).symm.trans hf) |>.symm
      obtain rfl : fn = Tryd.f5 := (Option.some.inj (Tryd.func5.symm.trans hfn)).symm
      exact ⟨by kernel_rfl, fun j t ht => by
        rw [Tryd.params5] at ht
        have hm : t ∈ [22, 28, 40, 3, 3] := by simpa using Array.mem_of_getElem? ht
        have hall : ([22, 28, 40, 3, 3].all fun u => !Tryd.prog.wantsStandIn u) = true := by kernel_rfl
        exact (show Tryd.prog.wantsStandIn t = false by simpa using List.all_eq_true.1 hall t hm)⟩)
    (by kernel_rfl)
theorem answers_proved : Rows.DeletionAnswersCardSaid := answers_card (lawA_of (answers_law awake_true))
end Go.Proofs.YtfemjbmfpnpjfaaDoor
