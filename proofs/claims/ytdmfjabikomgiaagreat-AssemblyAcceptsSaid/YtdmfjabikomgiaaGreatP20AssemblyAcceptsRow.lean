/- The row of AssemblyAccepts, from its answer on the machine. -/
import Derived.Test.YtdmfjabikomgiaaGreatP20SegC
import Derived.SizedLaws
namespace Go.Proofs.YtdmfjabikomgiaaGreat
open Go Go.Ab Go.ChangeShapes Go.WideShapes Go.ChangeAt Go.WideMaps Go.WideElems Go.RowKit
set_option maxRecDepth 100000 in
theorem accepts_lifted (hlaw : Law 4) (os : Os) (started : os.Started) (H : Type) (enc : TypeId × Value -> H) :
  ReturnsInHanded {} Tryz.checked os 4 .any (Rows.assemblyAcceptsSpec.pre6 enc Tryz.prog Tryz.f4 [] false) (Rows.assemblyAcceptsSpec.post enc Tryz.prog Tryz.f4 false true false false) := by
 refine returnsInHanded_of_change_sized (C := Tryz.checked) Tryz.own started (by kernel_rfl) Tryz.func4
  (ChangeSpec.witness6 (enc := enc) (C := Tryz.checked) false ⟨#[], #[.slice none 0 0], []⟩ 8 (by kernel_rfl) (by kernel_rfl) (by kernel_rfl) (by kernel_rfl)) ?_
 intro W base args ds gs before hval0 hW _ _ _;have hval : ∀ (j : Nat) t v, Tryz.f4.params[j]? = some t -> args[j]? = some v -> Value.okWide Tryz.prog W .any base t v := hval0;have hW' := hW;obtain ⟨p, q, hA0, hV, rfl, hfz, hnd⟩ := hW;have hA : DataW.TrodAll enc Tryz.prog W 0 (fun _ => true) true Tryz.f4.params.toList args.toList ds p := hA0;rw [Tryz.params4] at hA hval;obtain ⟨v0, d0, rfl, rfl, h0⟩ := trodAll_one hA;obtain ⟨rfl, rfl⟩ := trodVars_none hV;clear hA0 hval0;simp only [List.append_nil] at hW';have h0k := h0;have hlt : ∀ x ∈ p, x.block < W.heap.size := fun x hx => by simpa using hW'.lt x hx
 obtain ⟨zs, hz, hv⟩ : ∃ zs : List Int, (∀ z ∈ zs, (Lit.int .i64 z).wf = true) /\ Rep W qfz (ints .i64 zs) v0 := by
  obtain ⟨a0, len, cap, rfl⟩ := okWide_slice Tryz.underlying22 (hval 0 22 v0 rfl rfl);obtain ⟨fuel, hf⟩ := h0;rcases open_ints Tryz.underlying22 Tryz.underlying3 (by kernel_rfl) hf with ⟨e, _⟩ | ⟨a, len', cap', zs, e, _, hlc, _, hzl, _, hcell, hw⟩
  .have e' : Value.slice a0 len cap = .slice Option.none 0 0 := by simpa [Value.cells] using e
   rw [e'];exact ⟨[], by simp, qre _ _ _⟩
  .have e' : Value.slice a0 len cap = .slice (some a) len' cap' := by simpa [Value.cells] using e
   rw [e'];exact ⟨zs.take len', fun z hz => hw z (List.mem_of_mem_take hz), y8r (by rw [hzl]; split <;> omega) hlc hcell⟩
 refine (y4x hlaw hz hv).mono fun e W' ⟨he, hb⟩ => ?_
 subst he;exact ⟨_, rfl, ⟨_, _, _, [], p, [], hW', trodAll_mk1 (shut_bool Tryz.underlying4 _), trodAll_mk1 (Below.trod Tryz.laidOut (by kernel_rfl) (of_decide_eq_true (by kernel_rfl)) h0k hb hlt), rfl, hb.frame _, fun h => by cases h⟩⟩
set_option maxRecDepth 100000
theorem yh6:(Rows.assemblyAcceptsRow.inPlace==Tryz.prog.inPlace 4)=true:=by kernel_rfl
theorem yik:(Rows.assemblyAcceptsRow.unfollowed==Tryz.prog.unfollowed 4)=true:=by kernel_rfl
theorem yju:(Rows.assemblyAcceptsRow.recurses==Tryz.prog.recurses 4)=true:=by kernel_rfl
theorem yhv:(Rows.assemblyAcceptsRow.named==Tryz.prog.varsNamed 4)=true:=by kernel_rfl
theorem ygw:joinedFacts Tryz.prog 4 Tryz.f4 Rows.assemblyAcceptsSpec Rows.assemblyAcceptsRow=true:=by unfold joinedFacts;rw[yh6,yik,yju,yhv,Tryz.laidOut];kernel_rfl
theorem yi9:Tryz.f4.isWrapper Tryz.prog Rows.assemblyAcceptsRow.wrapper Rows.assemblyAcceptsRow.mainSum:=by unfold Func.isWrapper;first|(rw[if_pos (by decide+kernel)];kernel_rfl)|(rw[if_neg (by decide+kernel)];exact⟨rfl,rfl⟩)
theorem qqd(hlaw:Law 4):Rows.AssemblyAcceptsSaid:=OpenClaim.holds_of_wide 4 Tryz.f4 rfl rfl rfl rfl rfl rfl rfl ⟨rfl,rfl,rfl,rfl,rfl⟩ rfl rfl rfl rfl rfl (by kernel_rfl) Tryz.func4 ygw (of_decide_eq_true (by kernel_rfl)) yi9 (fun os started H enc _=>accepts_lifted hlaw os started H enc)
theorem accepts_proved:Rows.AssemblyAcceptsSaid:=qqd (law_of qph)
end Go.Proofs.YtdmfjabikomgiaaGreat
