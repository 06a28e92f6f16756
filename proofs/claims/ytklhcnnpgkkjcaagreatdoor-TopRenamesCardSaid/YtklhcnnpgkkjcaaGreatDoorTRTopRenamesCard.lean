/- The card of TopRenames. -/
import Derived.Test.YtklhcnnpgkkjcaaGreatDoorTRTopRenamesRow
import Derived.Test.YtklhcnnpgkkjcaaGreatDoorTRSegE
import Derived.Test.YtklhcnnpgkkjcaaGreatDoorTRSegC
import Derived.Test.YtklhcnnpgkkjcaaGreatDoorCards
import Derived.Test.YtklhcnnpgkkjcaaGreatDoorTie
import Derived.SevenTiedAt
namespace Go.Proofs.YtklhcnnpgkkjcaaGreatDoor
open Go Go.Ab
theorem qtu(hlaw:Law 3):Rows.TopRenamesCardSaid:=Claim7.holds_tied_plain_at .later [] [.data,.data,.data,.data,.sentinel,.sentinel,.pinned] true _ true (qui hlaw) (fun _ h=>by cases h) (by kernel_rfl) (fun _ h=>by cases h) topRenames_row_tie rfl ⟨rfl,rfl⟩ (by kernel_rfl) rfl (fun f fn hf hfn=>by obtain rfl:f=3:=Option.some.inj ((show Tryz.prog.funcNamed "trustquorum/trustquorumtop.TopRenames"=some 3 by kernel_rfl).symm.trans hf)|>.symm;obtain rfl:fn=Tryz.f3:=(Option.some.inj (Tryz.func3.symm.trans hfn)).symm;exact⟨by kernel_rfl,fun j t ht=>by
    rw[Tryz.params3]at ht;have hm:t∈[22]:=by simpa using Array.mem_of_getElem? ht
    have hall:([22].all fun u=>!Tryz.prog.wantsStandIn u)=true:=by kernel_rfl
    exact(show Tryz.prog.wantsStandIn t=false by simpa using List.all_eq_true.1 hall t hm)⟩) (by kernel_rfl)
theorem renames_proved:Rows.TopRenamesCardSaid:=qtu (law_of (qwl y9j))
end Go.Proofs.YtklhcnnpgkkjcaaGreatDoor
